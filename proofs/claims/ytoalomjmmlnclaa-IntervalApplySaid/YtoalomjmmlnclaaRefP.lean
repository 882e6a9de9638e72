/- The reference of chapter 27: what its quotient answers, in the plain function's words. -/
import Derived.Test.YtoalomjmmlnclaaRefK
import Derived.Test.YtoalomjmmlnclaaRefM
namespace Go.Proofs.Ytoalomjmmlnclaa.Ivl5
open Go.RowKit Go.Proofs.Ytoalomjmmlnclaa.PIntervalApply Go.Proofs.YtoalomjmmlnclaaW.PrintWords Go.Proofs.YtoalomjmmlnclaaW.PrintLast
open Go.Proofs.Ytoalomjmmlnclaa.M
open List renaming setIfInBounds_toArray → zA, set_cons_zero → zB, set_cons_succ → zC
attribute [local go_sem] max2_int min2_int max_two min_two max_three min_three max_four min_four
set_option linter.unusedVariables false
set_option linter.unusedSimpArgs false

theorem Bx.grown {w W W' : World} {L : List (Nat × Int × Int)} {row : Option Nat} (h : Bx w L W) (hg : W.grownBy W' row) (hb : Below w.heap.size w W') (hne : ∀ (n g : Nat) (a b : Int), L[n]? = some (g, a, b) → some g ≠ row) : Bx w L W' :=
  ⟨fun n g a b hn => blk_grown (h.blk n g a b hn) hg (hne n g a b hn), hb⟩

set_option maxHeartbeats 4000000 in
set_option maxRecDepth 100000 in
theorem div_full (a b c d : Int) (h1 : Aside0 (hasv a b (-2147483648) = true)) (h2 : Aside0 (hasv c d (-1) = true)) (w : World) : Calls Try.prog 71 #[.agg #[.int .i32 a, .int .i32 b], .agg #[.int .i32 c, .int .i32 d]] w fun e w' => e = .returned (.agg #[.int .i32 (-2147483648), .int .i32 2147483647]) ∧ Below w.heap.size w w' := by
  have hu51 := Try.underlying51
  go_enter Try.func71, Try.ntmps71
  go_upto_region 1 with (fail)
  have HB := Aside0.mk (Bx.start3 w a b c d 0 0)
  generalize World.alloc (World.alloc (World.alloc w _) _) _ = w0 at HB ⊢
  have C := HB.out.cl
  simp only [Cl, and_true] at C
  obtain ⟨_, _, _, _, _, _, _, _, _, _, _, _⟩ := C
  go_wp2_with fail
  (with_reducible refine (has_c _ _ _ _ h1.out _).mono ?_); rintro e wv1 ⟨rfl, hb⟩
  replace HB := Aside0.mk (HB.out.step hb)
  clear hb
  have C := HB.out.cl
  simp only [Cl, and_true] at C
  obtain ⟨_, _, _, _, _, _, _, _, _, _, _, _⟩ := C
  go_wp2_with fail
  (with_reducible refine (has_c _ _ _ _ h2.out _).mono ?_); rintro e wv2 ⟨rfl, hb⟩
  replace HB := Aside0.mk (HB.out.step hb)
  clear hb
  have C := HB.out.cl
  simp only [Cl, and_true] at C
  obtain ⟨_, _, _, _, _, _, _, _, _, _, _, _⟩ := C
  go_wp2_with fail
  (with_reducible refine (full_c _).mono ?_); rintro e wv3 ⟨rfl, hb⟩
  replace HB := Aside0.mk (HB.out.step hb)
  clear hb
  have C := HB.out.cl
  simp only [Cl, and_true] at C
  obtain ⟨_, _, _, _, _, _, _, _, _, _, _, _⟩ := C
  go_wp2_with fail
  obtain ⟨R1, R2⟩ := HB.out.ret 2 rfl (by omega) (-2147483648) 2147483647
  refine bodyPost_ret (results_cell_row rfl _ _ (w.heap.size + 1 + 1) 51 #[.int .i32 (-2147483648), .int .i32 2147483647] (0, 0) _ rfl R1 Try.underlying51 rfl (by kernel_rfl)) rfl ⟨rfl, R2⟩

set_option maxHeartbeats 4000000 in
set_option maxRecDepth 100000 in
theorem div_n (a b c d u p q r s u' p' q' r' s' x y : Int) (h1 h2 : Bool) (hh : h1 = false ∨ h2 = false) (hh1 : Aside0 (hasv a b (-2147483648) = h1)) (hh2 : Aside0 (hasv c d (-1) = h2)) (ea : Aside0 (wrap64 a = a)) (eb : Aside0 (wrap64 b = b)) (ec : Aside0 (wrap64 c = c)) (ed : Aside0 (wrap64 d = d)) (hc : decide (c < 0) = true) (hu : Aside0 (min d (-1) = u)) (eu : Aside0 (wrap32 u = u)) (cn : Aside0 (ontimeref27_corners.f 10 9 a b c u = some [p, q, r, s])) (hd : decide (0 < d) = false) (hx : Aside0 (ontimeref27_hull.f 6 ([p, q, r, s]) = some (x, y))) (w : World) : Calls Try.prog 71 #[.agg #[.int .i32 a, .int .i32 b], .agg #[.int .i32 c, .int .i32 d]] w fun e w' => e = .returned (.agg #[.int .i32 x, .int .i32 y]) ∧ Below w.heap.size w w' := by
  have hu51 := Try.underlying51
  go_enter Try.func71, Try.ntmps71
  go_upto_region 1 with (fail)
  have HB := Aside0.mk (Bx.start3 w a b c d 0 0)
  generalize World.alloc (World.alloc (World.alloc w _) _) _ = w0 at HB ⊢
  have C := HB.out.cl
  simp only [Cl, and_true] at C
  obtain ⟨_, _, _, _, _, _, _, _, _, _, _, _⟩ := C
  go_cut [11] (fun v wc => v = .bool false ∧ Aside0 (Bx w [(w.heap.size, a, b), (w.heap.size + 1, c, d), (w.heap.size + 1 + 1, 0, 0)] wc))
  case first =>
    cases h1 with
    | false =>
      clear hh
      go_wp2_with fail
      (with_reducible refine (has_c _ _ _ _ hh1.out _).mono ?_); rintro e wv1 ⟨rfl, hb⟩
      replace HB := Aside0.mk (HB.out.step hb)
      clear hb
      have C := HB.out.cl
      simp only [Cl, and_true] at C
      obtain ⟨_, _, _, _, _, _, _, _, _, _, _, _⟩ := C
      go_wp2_with fail
      go_meet
      case rel => exact ⟨by first | rfl | (simp; done) | (simp [*]; done), HB⟩
    | true =>
      obtain rfl : h2 = false := by simpa using hh
      clear hh
      go_wp2_with fail
      (with_reducible refine (has_c _ _ _ _ hh1.out _).mono ?_); rintro e wv1 ⟨rfl, hb⟩
      replace HB := Aside0.mk (HB.out.step hb)
      clear hb
      have C := HB.out.cl
      simp only [Cl, and_true] at C
      obtain ⟨_, _, _, _, _, _, _, _, _, _, _, _⟩ := C
      go_wp2_with fail
      (with_reducible refine (has_c _ _ _ _ hh2.out _).mono ?_); rintro e wv2 ⟨rfl, hb⟩
      replace HB := Aside0.mk (HB.out.step hb)
      clear hb
      have C := HB.out.cl
      simp only [Cl, and_true] at C
      obtain ⟨_, _, _, _, _, _, _, _, _, _, _, _⟩ := C
      go_wp2_with fail
      go_meet
      case rel => exact ⟨by first | rfl | (simp; done) | (simp [*]; done), HB⟩
  case rest =>
    clear HB hh
    obtain ⟨rfl, HB⟩ := hcut
    have C := HB.out.cl
    simp only [Cl, and_true] at C
    obtain ⟨_, _, _, _, _, _, _, _, _, _, _, _⟩ := C
    go_upto_region 5 with (fail)
    replace HB := Aside0.mk (HB.out.drew)
    refine start_ (n := 13) (S := fun w' => w'.cell? ⟨w.heap.size, 0, none⟩ = some (.int .i32 a) ∧ w'.cell? ⟨w.heap.size, 1, none⟩ = some (.int .i32 b) ∧ w'.cell? ⟨w.heap.size + 1, 0, none⟩ = some (.int .i32 c) ∧ w'.cell? ⟨w.heap.size + 1, 1, none⟩ = some (.int .i32 d)) (ds := []) #[false, false, false, false, false, false, false, false, false, false, false, false, false] (by kernel_rfl) rfl rfl ⟨HB.out.c0 0 rfl, HB.out.c1 0 rfl, HB.out.c0 1 rfl, HB.out.c1 1 rfl⟩ (fun hHeld => ?_)
    generalize wc.drew = wv1 at HB hHeld ⊢
    refine pure_ (i := 0) (N := some 16) (v := ?_) (a' := ?_) (bl 13 1) rfl rfl (by kernel_rfl) (fun _ _ _ h => h) (Or.inl ⟨by rfl, ?_⟩) ?_ ?_
    rotate_left
    · intro w'; go_simp; with_reducible rfl
    rotate_left
    · simp only [Act.put, zA, zB, zC, i64_w, i32_w]; rfl
    refine pure_ (i := 2) (N := some 18) (v := ?_) (a' := ?_) (bl 13 5) rfl rfl (by kernel_rfl) (fun _ _ _ h => h) (Or.inl ⟨by rfl, ?_⟩) ?_ ?_
    rotate_left
    · intro w'; go_simp; with_reducible rfl
    rotate_left
    · simp only [Act.put, zA, zB, zC, i64_w, i32_w]; rfl
    refine pure_ (i := 4) (N := some 20) (v := ?_) (a' := ?_) (bl 13 21) rfl rfl (by kernel_rfl) (fun _ _ _ h => h) (Or.inl ⟨by rfl, ?_⟩) ?_ ?_
    rotate_left
    · intro w'; go_simp; with_reducible rfl
    rotate_left
    · simp only [Act.put, zA, zB, zC, i64_w, i32_w]; rfl
    refine take_ (i := 1) (N := some 17) (v := ?_) (a' := ?_) (bl 13 23) rfl rfl (by kernel_rfl) (fun _ _ _ h => h) (Or.inl ⟨by rfl, ?_⟩) hHeld ?_ ?_
    rotate_left
    · rintro w' ⟨s0, s1, s2, s3⟩; go_simp; with_reducible rfl
    rotate_left
    · simp only [Act.put, zA, zB, zC, i64_w, i32_w]; rfl
    refine take_ (i := 3) (N := some 19) (v := ?_) (a' := ?_) (bl 13 31) rfl rfl (by kernel_rfl) (fun _ _ _ h => h) (Or.inl ⟨by rfl, ?_⟩) hHeld ?_ ?_
    rotate_left
    · rintro w' ⟨s0, s1, s2, s3⟩; go_simp; with_reducible rfl
    rotate_left
    · simp only [Act.put, zA, zB, zC, i64_w, i32_w]; rfl
    refine take_ (i := 5) (N := some 21) (v := ?_) (a' := ?_) (bl 13 63) rfl rfl (by kernel_rfl) (fun _ _ _ h => h) (Or.inl ⟨by rfl, ?_⟩) hHeld ?_ ?_
    rotate_left
    · rintro w' ⟨s0, s1, s2, s3⟩; go_simp; with_reducible rfl
    rotate_left
    · simp only [Act.put, zA, zB, zC, i64_w, i32_w]; rfl
    refine pure_ (i := 6) (N := some 22) (v := ?_) (a' := ?_) (bl 13 127) rfl rfl (by kernel_rfl) (fun _ _ _ h => h) (Or.inl ⟨by rfl, ?_⟩) ?_ ?_
    rotate_left
    · intro w'; go_simp; with_reducible rfl
    rotate_left
    · simp only [Act.put, zA, zB, zC, i64_w, i32_w]; rfl
    refine one_ (i := 7) (N := some 23) (bl 13 255) rfl rfl (by kernel_rfl) (by decide) (fun K hK => ?_)
    refine goes_ Try.func84 (by kernel_rfl) rfl #[.int .i64 (wrap64 d), .int .i64 (-1)] (by rfl) rfl rfl (by (try simp only [List.map_toArray, List.map_cons, List.map_nil]); first | done | rfl) ?_
    with_reducible refine (least_c _ _ u (by rw [ed.out]; exact hu.out) _).mono ?_
    rintro e wv2 ⟨rfl, hb⟩; refine ⟨_, rfl, ?_⟩
    replace HB := Aside0.mk (HB.out.step hb); clear hb
    refine hK.out _ _ ⟨HB.out.c0 0 rfl, HB.out.c1 0 rfl, HB.out.c0 1 rfl, HB.out.c1 1 rfl⟩ (fun hHeld => ?_)
    clear hK K
    refine norm_ (a' := ?_) ?_ ?_; rotate_left
    · show Act.put _ (some 23) _ = _; simp only [Act.put, zA, zB, zC, i64_w, i32_w]; rfl
    refine pure_ (i := 8) (N := some 24) (v := ?_) (a' := ?_) (bl 13 511) rfl rfl (by kernel_rfl) (fun _ _ _ h => h) (Or.inl ⟨by rfl, ?_⟩) ?_ ?_
    rotate_left
    · intro w'; go_simp; with_reducible rfl
    rotate_left
    · simp only [Act.put, zA, zB, zC, i64_w, i32_w]; rfl
    refine pure_ (i := 9) (N := some 25) (v := ?_) (a' := ?_) (bl 13 1023) rfl rfl (by kernel_rfl) (fun _ _ _ h => h) (Or.inl ⟨by rfl, ?_⟩) ?_ ?_
    rotate_left
    · intro w'; go_simp; with_reducible rfl
    rotate_left
    · simp only [Act.put, zA, zB, zC, i64_w, i32_w]; rfl
    refine one_ (i := 10) (N := some 26) (bl 13 2047) rfl rfl (by kernel_rfl) (by decide) (fun K hK => ?_)
    refine goes_ Try.func70 (by kernel_rfl) rfl #[.int .u8 9, .agg #[.int .i32 a, .int .i32 b], .agg #[.int .i32 c, .int .i32 (wrap32 u)]] (by rfl) rfl rfl (by (try simp only [List.map_toArray, List.map_cons, List.map_nil]); first | done | rfl) ?_
    with_reducible refine (ontimeref27_corners.calls 10 9 a b c (wrap32 u) [p, q, r, s] _ (by rw [eu.out]; exact cn.out)).mono ?_
    rintro e wv3 ⟨v0, rfl, ho, hb⟩; refine ⟨_, rfl, ?_⟩
    have HC := Aside0.mk (Kd.R_lower ho HB.out.below.size)
    replace HB := Aside0.mk (HB.out.step hb)
    clear hb ho
    obtain ⟨g0, c0, e0⟩ := Kd.R_slice HC.out
    subst e0
    refine hK.out _ _ ⟨HB.out.c0 0 rfl, HB.out.c1 0 rfl, HB.out.c0 1 rfl, HB.out.c1 1 rfl⟩ (fun hHeld => ?_)
    clear hK K
    refine norm_ (a' := ?_) ?_ ?_; rotate_left
    · show Act.put _ (some 26) _ = _; simp only [Act.put, zA, zB, zC, i64_w, i32_w]; rfl
    refine one_ (i := 11) (N := some 27) (bl 13 4095) rfl rfl (by kernel_rfl) (by decide) (fun K hK => ?_)
    refine Kd.R_append_rows_step (Kd.int .i64) (w0 := w) w.heap.size (by rfl) (.tmp 16) (.tmp 26) 75 2 (.int .i64 0) 8 rfl Try.underlying75 info2 rfl (by decide) (by omega) (.slice none 0 0) ([] : List Int) [p, q, r, s] _ _ _ (fun k => some k ≠ (.slice g0 [p, q, r, s].length c0 : Value).ownBlock) (fun _ => False) rfl rfl ?aO ?aR (fun _ _ h => h) (fun _ h => h.elim) ?aF ?aB ?aS ?aL ?_
    (case aR => exact (Kd.R_reads' HC.out).2.2)
    (case aB => exact HB.out.below)
    (case aF => exact (fun k hk => Kd.fresh' (Kd.R_lt HC.out) k hk))
    (case aO => exact Kd.R_nil _ _ _ _ _)
    (case aS => exact HB.out.below.size)
    (case aL => simp)
    intro v1 wv4 ho hb hg hat
    replace HB := Aside0.mk (HB.out.grown hg hb (fun n g a b hn => by simp [Value.ownBlock]))
    have HV := Aside0.mk (Kd.R_mono ho (fun _ _ => trivial) : Kd.R (Kd.int .i64) 2 wv4 w.heap.size (fun _ => True) v1 ([p, q, r, s]))
    clear ho hb hg hat HC
    refine hK.out _ _ ⟨HB.out.c0 0 rfl, HB.out.c1 0 rfl, HB.out.c0 1 rfl, HB.out.c1 1 rfl⟩ (fun hHeld => ?_)
    clear hK K
    refine norm_ (a' := ?_) ?_ ?_; rotate_left
    · show Act.put _ (some 27) _ = _; simp only [Act.put, zA, zB, zC, i64_w, i32_w]; rfl
    refine pure_ (i := 12) (N := some 5) (v := ?_) (a' := ?_) (bl 13 8191) rfl rfl (by kernel_rfl) (fun _ _ _ h => h) (Or.inl ⟨by rfl, ?_⟩) ?_ ?_
    rotate_left
    · intro w'; go_simp; with_reducible rfl
    rotate_left
    · simp only [Act.put, zA, zB, zC, i64_w, i32_w]; rfl
    refine done_ (by kernel_rfl) ?_
    have C := HB.out.cl
    simp only [Cl, and_true] at C
    obtain ⟨_, _, _, _, _, _, _, _, _, _, _, _⟩ := C
    obtain ⟨gv, cv, ev⟩ := Kd.R_slice HV.out
    subst ev
    go_wp2_with fail
    refine (ontimeref27_hull.calls 6 gv cv ([p, q, r, s]) x y _ (Kd.R_reads' HV.out).2.2 (Kd.R_reads' HV.out).2.1 hx.out).mono ?_; rintro e w' ⟨rfl, hb⟩
    replace HB := Aside0.mk (HB.out.step hb)
    clear hb HV
    have C := HB.out.cl
    simp only [Cl, and_true] at C
    obtain ⟨_, _, _, _, _, _, _, _, _, _, _, _⟩ := C
    go_wp2_with fail
    obtain ⟨R1, R2⟩ := HB.out.ret 2 rfl (by omega) x y
    refine bodyPost_ret (results_cell_row rfl _ _ (w.heap.size + 1 + 1) 51 #[.int .i32 x, .int .i32 y] (0, 0) _ rfl R1 Try.underlying51 rfl (by kernel_rfl)) rfl ⟨rfl, R2⟩

set_option maxHeartbeats 4000000 in
set_option maxRecDepth 100000 in
theorem div_p (a b c d u p q r s u' p' q' r' s' x y : Int) (h1 h2 : Bool) (hh : h1 = false ∨ h2 = false) (hh1 : Aside0 (hasv a b (-2147483648) = h1)) (hh2 : Aside0 (hasv c d (-1) = h2)) (ea : Aside0 (wrap64 a = a)) (eb : Aside0 (wrap64 b = b)) (ec : Aside0 (wrap64 c = c)) (ed : Aside0 (wrap64 d = d)) (hc : decide (c < 0) = false) (hd : decide (0 < d) = true) (hu' : Aside0 (max c 1 = u')) (eu' : Aside0 (wrap32 u' = u')) (cp : Aside0 (ontimeref27_corners.f 10 9 a b u' d = some [p', q', r', s'])) (hx : Aside0 (ontimeref27_hull.f 6 ([p', q', r', s']) = some (x, y))) (w : World) : Calls Try.prog 71 #[.agg #[.int .i32 a, .int .i32 b], .agg #[.int .i32 c, .int .i32 d]] w fun e w' => e = .returned (.agg #[.int .i32 x, .int .i32 y]) ∧ Below w.heap.size w w' := by
  have hu51 := Try.underlying51
  go_enter Try.func71, Try.ntmps71
  go_upto_region 1 with (fail)
  have HB := Aside0.mk (Bx.start3 w a b c d 0 0)
  generalize World.alloc (World.alloc (World.alloc w _) _) _ = w0 at HB ⊢
  have C := HB.out.cl
  simp only [Cl, and_true] at C
  obtain ⟨_, _, _, _, _, _, _, _, _, _, _, _⟩ := C
  go_cut [11] (fun v wc => v = .bool false ∧ Aside0 (Bx w [(w.heap.size, a, b), (w.heap.size + 1, c, d), (w.heap.size + 1 + 1, 0, 0)] wc))
  case first =>
    cases h1 with
    | false =>
      clear hh
      go_wp2_with fail
      (with_reducible refine (has_c _ _ _ _ hh1.out _).mono ?_); rintro e wv1 ⟨rfl, hb⟩
      replace HB := Aside0.mk (HB.out.step hb)
      clear hb
      have C := HB.out.cl
      simp only [Cl, and_true] at C
      obtain ⟨_, _, _, _, _, _, _, _, _, _, _, _⟩ := C
      go_wp2_with fail
      go_meet
      case rel => exact ⟨by first | rfl | (simp; done) | (simp [*]; done), HB⟩
    | true =>
      obtain rfl : h2 = false := by simpa using hh
      clear hh
      go_wp2_with fail
      (with_reducible refine (has_c _ _ _ _ hh1.out _).mono ?_); rintro e wv1 ⟨rfl, hb⟩
      replace HB := Aside0.mk (HB.out.step hb)
      clear hb
      have C := HB.out.cl
      simp only [Cl, and_true] at C
      obtain ⟨_, _, _, _, _, _, _, _, _, _, _, _⟩ := C
      go_wp2_with fail
      (with_reducible refine (has_c _ _ _ _ hh2.out _).mono ?_); rintro e wv2 ⟨rfl, hb⟩
      replace HB := Aside0.mk (HB.out.step hb)
      clear hb
      have C := HB.out.cl
      simp only [Cl, and_true] at C
      obtain ⟨_, _, _, _, _, _, _, _, _, _, _, _⟩ := C
      go_wp2_with fail
      go_meet
      case rel => exact ⟨by first | rfl | (simp; done) | (simp [*]; done), HB⟩
  case rest =>
    clear HB hh
    obtain ⟨rfl, HB⟩ := hcut
    have C := HB.out.cl
    simp only [Cl, and_true] at C
    obtain ⟨_, _, _, _, _, _, _, _, _, _, _, _⟩ := C
    go_upto_region 7 with (fail)
    replace HB := Aside0.mk (HB.out.drew)
    refine start_ (n := 13) (S := fun w' => w'.cell? ⟨w.heap.size, 0, none⟩ = some (.int .i32 a) ∧ w'.cell? ⟨w.heap.size, 1, none⟩ = some (.int .i32 b) ∧ w'.cell? ⟨w.heap.size + 1, 0, none⟩ = some (.int .i32 c) ∧ w'.cell? ⟨w.heap.size + 1, 1, none⟩ = some (.int .i32 d)) (ds := []) #[false, false, false, false, false, false, false, false, false, false, false, false, false] (by kernel_rfl) rfl rfl ⟨HB.out.c0 0 rfl, HB.out.c1 0 rfl, HB.out.c0 1 rfl, HB.out.c1 1 rfl⟩ (fun hHeld => ?_)
    generalize wc.drew = wv1 at HB hHeld ⊢
    refine pure_ (i := 0) (N := some 31) (v := ?_) (a' := ?_) (bl 13 1) rfl rfl (by kernel_rfl) (fun _ _ _ h => h) (Or.inl ⟨by rfl, ?_⟩) ?_ ?_
    rotate_left
    · intro w'; go_simp; with_reducible rfl
    rotate_left
    · simp only [Act.put, zA, zB, zC, i64_w, i32_w]; rfl
    refine pure_ (i := 2) (N := some 33) (v := ?_) (a' := ?_) (bl 13 5) rfl rfl (by kernel_rfl) (fun _ _ _ h => h) (Or.inl ⟨by rfl, ?_⟩) ?_ ?_
    rotate_left
    · intro w'; go_simp; with_reducible rfl
    rotate_left
    · simp only [Act.put, zA, zB, zC, i64_w, i32_w]; rfl
    refine pure_ (i := 7) (N := some 38) (v := ?_) (a' := ?_) (bl 13 133) rfl rfl (by kernel_rfl) (fun _ _ _ h => h) (Or.inl ⟨by rfl, ?_⟩) ?_ ?_
    rotate_left
    · intro w'; go_simp; with_reducible rfl
    rotate_left
    · simp only [Act.put, zA, zB, zC, i64_w, i32_w]; rfl
    refine take_ (i := 1) (N := some 32) (v := ?_) (a' := ?_) (bl 13 135) rfl rfl (by kernel_rfl) (fun _ _ _ h => h) (Or.inl ⟨by rfl, ?_⟩) hHeld ?_ ?_
    rotate_left
    · rintro w' ⟨s0, s1, s2, s3⟩; go_simp; with_reducible rfl
    rotate_left
    · simp only [Act.put, zA, zB, zC, i64_w, i32_w]; rfl
    refine take_ (i := 3) (N := some 34) (v := ?_) (a' := ?_) (bl 13 143) rfl rfl (by kernel_rfl) (fun _ _ _ h => h) (Or.inl ⟨by rfl, ?_⟩) hHeld ?_ ?_
    rotate_left
    · rintro w' ⟨s0, s1, s2, s3⟩; go_simp; with_reducible rfl
    rotate_left
    · simp only [Act.put, zA, zB, zC, i64_w, i32_w]; rfl
    refine pure_ (i := 4) (N := some 35) (v := ?_) (a' := ?_) (bl 13 159) rfl rfl (by kernel_rfl) (fun _ _ _ h => h) (Or.inl ⟨by rfl, ?_⟩) ?_ ?_
    rotate_left
    · intro w'; go_simp; with_reducible rfl
    rotate_left
    · simp only [Act.put, zA, zB, zC, i64_w, i32_w]; rfl
    refine take_ (i := 8) (N := some 39) (v := ?_) (a' := ?_) (bl 13 415) rfl rfl (by kernel_rfl) (fun _ _ _ h => h) (Or.inl ⟨by rfl, ?_⟩) hHeld ?_ ?_
    rotate_left
    · rintro w' ⟨s0, s1, s2, s3⟩; go_simp; with_reducible rfl
    rotate_left
    · simp only [Act.put, zA, zB, zC, i64_w, i32_w]; rfl
    refine one_ (i := 5) (N := some 36) (bl 13 447) rfl rfl (by kernel_rfl) (by decide) (fun K hK => ?_)
    refine goes_ Try.func85 (by kernel_rfl) rfl #[.int .i64 (wrap64 c), .int .i64 1] (by rfl) rfl rfl (by (try simp only [List.map_toArray, List.map_cons, List.map_nil]); first | done | rfl) ?_
    with_reducible refine (most_c _ _ u' (by rw [ec.out]; exact hu'.out) _).mono ?_
    rintro e wv2 ⟨rfl, hb⟩; refine ⟨_, rfl, ?_⟩
    replace HB := Aside0.mk (HB.out.step hb); clear hb
    refine hK.out _ _ ⟨HB.out.c0 0 rfl, HB.out.c1 0 rfl, HB.out.c0 1 rfl, HB.out.c1 1 rfl⟩ (fun hHeld => ?_)
    clear hK K
    refine norm_ (a' := ?_) ?_ ?_; rotate_left
    · show Act.put _ (some 36) _ = _; simp only [Act.put, zA, zB, zC, i64_w, i32_w]; rfl
    refine pure_ (i := 6) (N := some 37) (v := ?_) (a' := ?_) (bl 13 511) rfl rfl (by kernel_rfl) (fun _ _ _ h => h) (Or.inl ⟨by rfl, ?_⟩) ?_ ?_
    rotate_left
    · intro w'; go_simp; with_reducible rfl
    rotate_left
    · simp only [Act.put, zA, zB, zC, i64_w, i32_w]; rfl
    refine pure_ (i := 9) (N := some 40) (v := ?_) (a' := ?_) (bl 13 1023) rfl rfl (by kernel_rfl) (fun _ _ _ h => h) (Or.inl ⟨by rfl, ?_⟩) ?_ ?_
    rotate_left
    · intro w'; go_simp; with_reducible rfl
    rotate_left
    · simp only [Act.put, zA, zB, zC, i64_w, i32_w]; rfl
    refine one_ (i := 10) (N := some 41) (bl 13 2047) rfl rfl (by kernel_rfl) (by decide) (fun K hK => ?_)
    refine goes_ Try.func70 (by kernel_rfl) rfl #[.int .u8 9, .agg #[.int .i32 a, .int .i32 b], .agg #[.int .i32 (wrap32 u'), .int .i32 d]] (by rfl) rfl rfl (by (try simp only [List.map_toArray, List.map_cons, List.map_nil]); first | done | rfl) ?_
    with_reducible refine (ontimeref27_corners.calls 10 9 a b (wrap32 u') d [p', q', r', s'] _ (by rw [eu'.out]; exact cp.out)).mono ?_
    rintro e wv3 ⟨v0, rfl, ho, hb⟩; refine ⟨_, rfl, ?_⟩
    have HC := Aside0.mk (Kd.R_lower ho HB.out.below.size)
    replace HB := Aside0.mk (HB.out.step hb)
    clear hb ho
    obtain ⟨g0, c0, e0⟩ := Kd.R_slice HC.out
    subst e0
    refine hK.out _ _ ⟨HB.out.c0 0 rfl, HB.out.c1 0 rfl, HB.out.c0 1 rfl, HB.out.c1 1 rfl⟩ (fun hHeld => ?_)
    clear hK K
    refine norm_ (a' := ?_) ?_ ?_; rotate_left
    · show Act.put _ (some 41) _ = _; simp only [Act.put, zA, zB, zC, i64_w, i32_w]; rfl
    refine one_ (i := 11) (N := some 42) (bl 13 4095) rfl rfl (by kernel_rfl) (by decide) (fun K hK => ?_)
    refine Kd.R_append_rows_step (Kd.int .i64) (w0 := w) w.heap.size (by rfl) (.tmp 31) (.tmp 41) 75 2 (.int .i64 0) 8 rfl Try.underlying75 info2 rfl (by decide) (by omega) (.slice none 0 0) ([] : List Int) [p', q', r', s'] _ _ _ (fun k => some k ≠ (.slice g0 [p', q', r', s'].length c0 : Value).ownBlock) (fun _ => False) rfl rfl ?aO ?aR (fun _ _ h => h) (fun _ h => h.elim) ?aF ?aB ?aS ?aL ?_
    (case aR => exact (Kd.R_reads' HC.out).2.2)
    (case aB => exact HB.out.below)
    (case aF => exact (fun k hk => Kd.fresh' (Kd.R_lt HC.out) k hk))
    (case aO => exact Kd.R_nil _ _ _ _ _)
    (case aS => exact HB.out.below.size)
    (case aL => simp)
    intro v1 wv4 ho hb hg hat
    replace HB := Aside0.mk (HB.out.grown hg hb (fun n g a b hn => by simp [Value.ownBlock]))
    have HV := Aside0.mk (Kd.R_mono ho (fun _ _ => trivial) : Kd.R (Kd.int .i64) 2 wv4 w.heap.size (fun _ => True) v1 ([p', q', r', s']))
    clear ho hb hg hat HC
    refine hK.out _ _ ⟨HB.out.c0 0 rfl, HB.out.c1 0 rfl, HB.out.c0 1 rfl, HB.out.c1 1 rfl⟩ (fun hHeld => ?_)
    clear hK K
    refine norm_ (a' := ?_) ?_ ?_; rotate_left
    · show Act.put _ (some 42) _ = _; simp only [Act.put, zA, zB, zC, i64_w, i32_w]; rfl
    refine pure_ (i := 12) (N := some 5) (v := ?_) (a' := ?_) (bl 13 8191) rfl rfl (by kernel_rfl) (fun _ _ _ h => h) (Or.inl ⟨by rfl, ?_⟩) ?_ ?_
    rotate_left
    · intro w'; go_simp; with_reducible rfl
    rotate_left
    · simp only [Act.put, zA, zB, zC, i64_w, i32_w]; rfl
    refine done_ (by kernel_rfl) ?_
    have C := HB.out.cl
    simp only [Cl, and_true] at C
    obtain ⟨_, _, _, _, _, _, _, _, _, _, _, _⟩ := C
    obtain ⟨gv, cv, ev⟩ := Kd.R_slice HV.out
    subst ev
    go_wp2_with fail
    refine (ontimeref27_hull.calls 6 gv cv ([p', q', r', s']) x y _ (Kd.R_reads' HV.out).2.2 (Kd.R_reads' HV.out).2.1 hx.out).mono ?_; rintro e w' ⟨rfl, hb⟩
    replace HB := Aside0.mk (HB.out.step hb)
    clear hb HV
    have C := HB.out.cl
    simp only [Cl, and_true] at C
    obtain ⟨_, _, _, _, _, _, _, _, _, _, _, _⟩ := C
    go_wp2_with fail
    obtain ⟨R1, R2⟩ := HB.out.ret 2 rfl (by omega) x y
    refine bodyPost_ret (results_cell_row rfl _ _ (w.heap.size + 1 + 1) 51 #[.int .i32 x, .int .i32 y] (0, 0) _ rfl R1 Try.underlying51 rfl (by kernel_rfl)) rfl ⟨rfl, R2⟩

set_option maxHeartbeats 4000000 in
set_option maxRecDepth 100000 in
theorem div_np (a b c d u p q r s u' p' q' r' s' x y : Int) (h1 h2 : Bool) (hh : h1 = false ∨ h2 = false) (hh1 : Aside0 (hasv a b (-2147483648) = h1)) (hh2 : Aside0 (hasv c d (-1) = h2)) (ea : Aside0 (wrap64 a = a)) (eb : Aside0 (wrap64 b = b)) (ec : Aside0 (wrap64 c = c)) (ed : Aside0 (wrap64 d = d)) (hc : decide (c < 0) = true) (hu : Aside0 (min d (-1) = u)) (eu : Aside0 (wrap32 u = u)) (cn : Aside0 (ontimeref27_corners.f 10 9 a b c u = some [p, q, r, s])) (hd : decide (0 < d) = true) (hu' : Aside0 (max c 1 = u')) (eu' : Aside0 (wrap32 u' = u')) (cp : Aside0 (ontimeref27_corners.f 10 9 a b u' d = some [p', q', r', s'])) (hx : Aside0 (ontimeref27_hull.f 10 ([p, q, r, s] ++ [p', q', r', s']) = some (x, y))) (w : World) : Calls Try.prog 71 #[.agg #[.int .i32 a, .int .i32 b], .agg #[.int .i32 c, .int .i32 d]] w fun e w' => e = .returned (.agg #[.int .i32 x, .int .i32 y]) ∧ Below w.heap.size w w' := by
  have hu51 := Try.underlying51
  go_enter Try.func71, Try.ntmps71
  go_upto_region 1 with (fail)
  have HB := Aside0.mk (Bx.start3 w a b c d 0 0)
  generalize World.alloc (World.alloc (World.alloc w _) _) _ = w0 at HB ⊢
  have C := HB.out.cl
  simp only [Cl, and_true] at C
  obtain ⟨_, _, _, _, _, _, _, _, _, _, _, _⟩ := C
  go_cut [11] (fun v wc => v = .bool false ∧ Aside0 (Bx w [(w.heap.size, a, b), (w.heap.size + 1, c, d), (w.heap.size + 1 + 1, 0, 0)] wc))
  case first =>
    cases h1 with
    | false =>
      clear hh
      go_wp2_with fail
      (with_reducible refine (has_c _ _ _ _ hh1.out _).mono ?_); rintro e wv1 ⟨rfl, hb⟩
      replace HB := Aside0.mk (HB.out.step hb)
      clear hb
      have C := HB.out.cl
      simp only [Cl, and_true] at C
      obtain ⟨_, _, _, _, _, _, _, _, _, _, _, _⟩ := C
      go_wp2_with fail
      go_meet
      case rel => exact ⟨by first | rfl | (simp; done) | (simp [*]; done), HB⟩
    | true =>
      obtain rfl : h2 = false := by simpa using hh
      clear hh
      go_wp2_with fail
      (with_reducible refine (has_c _ _ _ _ hh1.out _).mono ?_); rintro e wv1 ⟨rfl, hb⟩
      replace HB := Aside0.mk (HB.out.step hb)
      clear hb
      have C := HB.out.cl
      simp only [Cl, and_true] at C
      obtain ⟨_, _, _, _, _, _, _, _, _, _, _, _⟩ := C
      go_wp2_with fail
      (with_reducible refine (has_c _ _ _ _ hh2.out _).mono ?_); rintro e wv2 ⟨rfl, hb⟩
      replace HB := Aside0.mk (HB.out.step hb)
      clear hb
      have C := HB.out.cl
      simp only [Cl, and_true] at C
      obtain ⟨_, _, _, _, _, _, _, _, _, _, _, _⟩ := C
      go_wp2_with fail
      go_meet
      case rel => exact ⟨by first | rfl | (simp; done) | (simp [*]; done), HB⟩
  case rest =>
    clear HB hh
    obtain ⟨rfl, HB⟩ := hcut
    have C := HB.out.cl
    simp only [Cl, and_true] at C
    obtain ⟨_, _, _, _, _, _, _, _, _, _, _, _⟩ := C
    go_upto_region 5 with (fail)
    replace HB := Aside0.mk (HB.out.drew)
    refine start_ (n := 13) (S := fun w' => w'.cell? ⟨w.heap.size, 0, none⟩ = some (.int .i32 a) ∧ w'.cell? ⟨w.heap.size, 1, none⟩ = some (.int .i32 b) ∧ w'.cell? ⟨w.heap.size + 1, 0, none⟩ = some (.int .i32 c) ∧ w'.cell? ⟨w.heap.size + 1, 1, none⟩ = some (.int .i32 d)) (ds := []) #[false, false, false, false, false, false, false, false, false, false, false, false, false] (by kernel_rfl) rfl rfl ⟨HB.out.c0 0 rfl, HB.out.c1 0 rfl, HB.out.c0 1 rfl, HB.out.c1 1 rfl⟩ (fun hHeld => ?_)
    generalize wc.drew = wv1 at HB hHeld ⊢
    refine pure_ (i := 0) (N := some 16) (v := ?_) (a' := ?_) (bl 13 1) rfl rfl (by kernel_rfl) (fun _ _ _ h => h) (Or.inl ⟨by rfl, ?_⟩) ?_ ?_
    rotate_left
    · intro w'; go_simp; with_reducible rfl
    rotate_left
    · simp only [Act.put, zA, zB, zC, i64_w, i32_w]; rfl
    refine pure_ (i := 2) (N := some 18) (v := ?_) (a' := ?_) (bl 13 5) rfl rfl (by kernel_rfl) (fun _ _ _ h => h) (Or.inl ⟨by rfl, ?_⟩) ?_ ?_
    rotate_left
    · intro w'; go_simp; with_reducible rfl
    rotate_left
    · simp only [Act.put, zA, zB, zC, i64_w, i32_w]; rfl
    refine pure_ (i := 4) (N := some 20) (v := ?_) (a' := ?_) (bl 13 21) rfl rfl (by kernel_rfl) (fun _ _ _ h => h) (Or.inl ⟨by rfl, ?_⟩) ?_ ?_
    rotate_left
    · intro w'; go_simp; with_reducible rfl
    rotate_left
    · simp only [Act.put, zA, zB, zC, i64_w, i32_w]; rfl
    refine take_ (i := 1) (N := some 17) (v := ?_) (a' := ?_) (bl 13 23) rfl rfl (by kernel_rfl) (fun _ _ _ h => h) (Or.inl ⟨by rfl, ?_⟩) hHeld ?_ ?_
    rotate_left
    · rintro w' ⟨s0, s1, s2, s3⟩; go_simp; with_reducible rfl
    rotate_left
    · simp only [Act.put, zA, zB, zC, i64_w, i32_w]; rfl
    refine take_ (i := 3) (N := some 19) (v := ?_) (a' := ?_) (bl 13 31) rfl rfl (by kernel_rfl) (fun _ _ _ h => h) (Or.inl ⟨by rfl, ?_⟩) hHeld ?_ ?_
    rotate_left
    · rintro w' ⟨s0, s1, s2, s3⟩; go_simp; with_reducible rfl
    rotate_left
    · simp only [Act.put, zA, zB, zC, i64_w, i32_w]; rfl
    refine take_ (i := 5) (N := some 21) (v := ?_) (a' := ?_) (bl 13 63) rfl rfl (by kernel_rfl) (fun _ _ _ h => h) (Or.inl ⟨by rfl, ?_⟩) hHeld ?_ ?_
    rotate_left
    · rintro w' ⟨s0, s1, s2, s3⟩; go_simp; with_reducible rfl
    rotate_left
    · simp only [Act.put, zA, zB, zC, i64_w, i32_w]; rfl
    refine pure_ (i := 6) (N := some 22) (v := ?_) (a' := ?_) (bl 13 127) rfl rfl (by kernel_rfl) (fun _ _ _ h => h) (Or.inl ⟨by rfl, ?_⟩) ?_ ?_
    rotate_left
    · intro w'; go_simp; with_reducible rfl
    rotate_left
    · simp only [Act.put, zA, zB, zC, i64_w, i32_w]; rfl
    refine one_ (i := 7) (N := some 23) (bl 13 255) rfl rfl (by kernel_rfl) (by decide) (fun K hK => ?_)
    refine goes_ Try.func84 (by kernel_rfl) rfl #[.int .i64 (wrap64 d), .int .i64 (-1)] (by rfl) rfl rfl (by (try simp only [List.map_toArray, List.map_cons, List.map_nil]); first | done | rfl) ?_
    with_reducible refine (least_c _ _ u (by rw [ed.out]; exact hu.out) _).mono ?_
    rintro e wv2 ⟨rfl, hb⟩; refine ⟨_, rfl, ?_⟩
    replace HB := Aside0.mk (HB.out.step hb); clear hb
    refine hK.out _ _ ⟨HB.out.c0 0 rfl, HB.out.c1 0 rfl, HB.out.c0 1 rfl, HB.out.c1 1 rfl⟩ (fun hHeld => ?_)
    clear hK K
    refine norm_ (a' := ?_) ?_ ?_; rotate_left
    · show Act.put _ (some 23) _ = _; simp only [Act.put, zA, zB, zC, i64_w, i32_w]; rfl
    refine pure_ (i := 8) (N := some 24) (v := ?_) (a' := ?_) (bl 13 511) rfl rfl (by kernel_rfl) (fun _ _ _ h => h) (Or.inl ⟨by rfl, ?_⟩) ?_ ?_
    rotate_left
    · intro w'; go_simp; with_reducible rfl
    rotate_left
    · simp only [Act.put, zA, zB, zC, i64_w, i32_w]; rfl
    refine pure_ (i := 9) (N := some 25) (v := ?_) (a' := ?_) (bl 13 1023) rfl rfl (by kernel_rfl) (fun _ _ _ h => h) (Or.inl ⟨by rfl, ?_⟩) ?_ ?_
    rotate_left
    · intro w'; go_simp; with_reducible rfl
    rotate_left
    · simp only [Act.put, zA, zB, zC, i64_w, i32_w]; rfl
    refine one_ (i := 10) (N := some 26) (bl 13 2047) rfl rfl (by kernel_rfl) (by decide) (fun K hK => ?_)
    refine goes_ Try.func70 (by kernel_rfl) rfl #[.int .u8 9, .agg #[.int .i32 a, .int .i32 b], .agg #[.int .i32 c, .int .i32 (wrap32 u)]] (by rfl) rfl rfl (by (try simp only [List.map_toArray, List.map_cons, List.map_nil]); first | done | rfl) ?_
    with_reducible refine (ontimeref27_corners.calls 10 9 a b c (wrap32 u) [p, q, r, s] _ (by rw [eu.out]; exact cn.out)).mono ?_
    rintro e wv3 ⟨v0, rfl, ho, hb⟩; refine ⟨_, rfl, ?_⟩
    have HC := Aside0.mk (Kd.R_lower ho HB.out.below.size)
    replace HB := Aside0.mk (HB.out.step hb)
    clear hb ho
    obtain ⟨g0, c0, e0⟩ := Kd.R_slice HC.out
    subst e0
    refine hK.out _ _ ⟨HB.out.c0 0 rfl, HB.out.c1 0 rfl, HB.out.c0 1 rfl, HB.out.c1 1 rfl⟩ (fun hHeld => ?_)
    clear hK K
    refine norm_ (a' := ?_) ?_ ?_; rotate_left
    · show Act.put _ (some 26) _ = _; simp only [Act.put, zA, zB, zC, i64_w, i32_w]; rfl
    refine one_ (i := 11) (N := some 27) (bl 13 4095) rfl rfl (by kernel_rfl) (by decide) (fun K hK => ?_)
    refine Kd.R_append_rows_step (Kd.int .i64) (w0 := w) w.heap.size (by rfl) (.tmp 16) (.tmp 26) 75 2 (.int .i64 0) 8 rfl Try.underlying75 info2 rfl (by decide) (by omega) (.slice none 0 0) ([] : List Int) [p, q, r, s] _ _ _ (fun k => some k ≠ (.slice g0 [p, q, r, s].length c0 : Value).ownBlock) (fun _ => False) rfl rfl ?aO ?aR (fun _ _ h => h) (fun _ h => h.elim) ?aF ?aB ?aS ?aL ?_
    (case aR => exact (Kd.R_reads' HC.out).2.2)
    (case aB => exact HB.out.below)
    (case aF => exact (fun k hk => Kd.fresh' (Kd.R_lt HC.out) k hk))
    (case aO => exact Kd.R_nil _ _ _ _ _)
    (case aS => exact HB.out.below.size)
    (case aL => simp)
    intro v1 wv4 ho hb hg hat
    replace HB := Aside0.mk (HB.out.grown hg hb (fun n g a b hn => by simp [Value.ownBlock]))
    have HV := Aside0.mk (Kd.R_mono ho (fun _ _ => trivial) : Kd.R (Kd.int .i64) 2 wv4 w.heap.size (fun _ => True) v1 ([p, q, r, s]))
    clear ho hb hg hat HC
    refine hK.out _ _ ⟨HB.out.c0 0 rfl, HB.out.c1 0 rfl, HB.out.c0 1 rfl, HB.out.c1 1 rfl⟩ (fun hHeld => ?_)
    clear hK K
    refine norm_ (a' := ?_) ?_ ?_; rotate_left
    · show Act.put _ (some 27) _ = _; simp only [Act.put, zA, zB, zC, i64_w, i32_w]; rfl
    refine pure_ (i := 12) (N := some 5) (v := ?_) (a' := ?_) (bl 13 8191) rfl rfl (by kernel_rfl) (fun _ _ _ h => h) (Or.inl ⟨by rfl, ?_⟩) ?_ ?_
    rotate_left
    · intro w'; go_simp; with_reducible rfl
    rotate_left
    · simp only [Act.put, zA, zB, zC, i64_w, i32_w]; rfl
    refine done_ (by kernel_rfl) ?_
    have C := HB.out.cl
    simp only [Cl, and_true] at C
    obtain ⟨_, _, _, _, _, _, _, _, _, _, _, _⟩ := C
    go_upto_region 7 with (fail)
    replace HB := Aside0.mk (HB.out.drew)
    replace HV := Aside0.mk (Kd.R_drew HV.out)
    refine start_ (n := 13) (S := fun w' => w'.cell? ⟨w.heap.size, 0, none⟩ = some (.int .i32 a) ∧ w'.cell? ⟨w.heap.size, 1, none⟩ = some (.int .i32 b) ∧ w'.cell? ⟨w.heap.size + 1, 0, none⟩ = some (.int .i32 c) ∧ w'.cell? ⟨w.heap.size + 1, 1, none⟩ = some (.int .i32 d)) (ds := []) #[false, false, false, false, false, false, false, false, false, false, false, false, false] (by kernel_rfl) rfl rfl ⟨HB.out.c0 0 rfl, HB.out.c1 0 rfl, HB.out.c0 1 rfl, HB.out.c1 1 rfl⟩ (fun hHeld => ?_)
    generalize wv4.drew = wv5 at HB HV hHeld ⊢
    refine pure_ (i := 0) (N := some 31) (v := ?_) (a' := ?_) (bl 13 1) rfl rfl (by kernel_rfl) (fun _ _ _ h => h) (Or.inl ⟨by rfl, ?_⟩) ?_ ?_
    rotate_left
    · intro w'; go_simp; with_reducible rfl
    rotate_left
    · simp only [Act.put, zA, zB, zC, i64_w, i32_w]; rfl
    refine pure_ (i := 2) (N := some 33) (v := ?_) (a' := ?_) (bl 13 5) rfl rfl (by kernel_rfl) (fun _ _ _ h => h) (Or.inl ⟨by rfl, ?_⟩) ?_ ?_
    rotate_left
    · intro w'; go_simp; with_reducible rfl
    rotate_left
    · simp only [Act.put, zA, zB, zC, i64_w, i32_w]; rfl
    refine pure_ (i := 7) (N := some 38) (v := ?_) (a' := ?_) (bl 13 133) rfl rfl (by kernel_rfl) (fun _ _ _ h => h) (Or.inl ⟨by rfl, ?_⟩) ?_ ?_
    rotate_left
    · intro w'; go_simp; with_reducible rfl
    rotate_left
    · simp only [Act.put, zA, zB, zC, i64_w, i32_w]; rfl
    refine take_ (i := 1) (N := some 32) (v := ?_) (a' := ?_) (bl 13 135) rfl rfl (by kernel_rfl) (fun _ _ _ h => h) (Or.inl ⟨by rfl, ?_⟩) hHeld ?_ ?_
    rotate_left
    · rintro w' ⟨s0, s1, s2, s3⟩; go_simp; with_reducible rfl
    rotate_left
    · simp only [Act.put, zA, zB, zC, i64_w, i32_w]; rfl
    refine take_ (i := 3) (N := some 34) (v := ?_) (a' := ?_) (bl 13 143) rfl rfl (by kernel_rfl) (fun _ _ _ h => h) (Or.inl ⟨by rfl, ?_⟩) hHeld ?_ ?_
    rotate_left
    · rintro w' ⟨s0, s1, s2, s3⟩; go_simp; with_reducible rfl
    rotate_left
    · simp only [Act.put, zA, zB, zC, i64_w, i32_w]; rfl
    refine pure_ (i := 4) (N := some 35) (v := ?_) (a' := ?_) (bl 13 159) rfl rfl (by kernel_rfl) (fun _ _ _ h => h) (Or.inl ⟨by rfl, ?_⟩) ?_ ?_
    rotate_left
    · intro w'; go_simp; with_reducible rfl
    rotate_left
    · simp only [Act.put, zA, zB, zC, i64_w, i32_w]; rfl
    refine take_ (i := 8) (N := some 39) (v := ?_) (a' := ?_) (bl 13 415) rfl rfl (by kernel_rfl) (fun _ _ _ h => h) (Or.inl ⟨by rfl, ?_⟩) hHeld ?_ ?_
    rotate_left
    · rintro w' ⟨s0, s1, s2, s3⟩; go_simp; with_reducible rfl
    rotate_left
    · simp only [Act.put, zA, zB, zC, i64_w, i32_w]; rfl
    refine one_ (i := 5) (N := some 36) (bl 13 447) rfl rfl (by kernel_rfl) (by decide) (fun K hK => ?_)
    refine goes_ Try.func85 (by kernel_rfl) rfl #[.int .i64 (wrap64 c), .int .i64 1] (by rfl) rfl rfl (by (try simp only [List.map_toArray, List.map_cons, List.map_nil]); first | done | rfl) ?_
    with_reducible refine (most_c _ _ u' (by rw [ec.out]; exact hu'.out) _).mono ?_
    rintro e wv6 ⟨rfl, hb⟩; refine ⟨_, rfl, ?_⟩
    replace HB := Aside0.mk (HB.out.step hb)
    replace HV := Aside0.mk (Kd.R_below HV.out hb); clear hb
    refine hK.out _ _ ⟨HB.out.c0 0 rfl, HB.out.c1 0 rfl, HB.out.c0 1 rfl, HB.out.c1 1 rfl⟩ (fun hHeld => ?_)
    clear hK K
    refine norm_ (a' := ?_) ?_ ?_; rotate_left
    · show Act.put _ (some 36) _ = _; simp only [Act.put, zA, zB, zC, i64_w, i32_w]; rfl
    refine pure_ (i := 6) (N := some 37) (v := ?_) (a' := ?_) (bl 13 511) rfl rfl (by kernel_rfl) (fun _ _ _ h => h) (Or.inl ⟨by rfl, ?_⟩) ?_ ?_
    rotate_left
    · intro w'; go_simp; with_reducible rfl
    rotate_left
    · simp only [Act.put, zA, zB, zC, i64_w, i32_w]; rfl
    refine pure_ (i := 9) (N := some 40) (v := ?_) (a' := ?_) (bl 13 1023) rfl rfl (by kernel_rfl) (fun _ _ _ h => h) (Or.inl ⟨by rfl, ?_⟩) ?_ ?_
    rotate_left
    · intro w'; go_simp; with_reducible rfl
    rotate_left
    · simp only [Act.put, zA, zB, zC, i64_w, i32_w]; rfl
    refine one_ (i := 10) (N := some 41) (bl 13 2047) rfl rfl (by kernel_rfl) (by decide) (fun K hK => ?_)
    refine goes_ Try.func70 (by kernel_rfl) rfl #[.int .u8 9, .agg #[.int .i32 a, .int .i32 b], .agg #[.int .i32 (wrap32 u'), .int .i32 d]] (by rfl) rfl rfl (by (try simp only [List.map_toArray, List.map_cons, List.map_nil]); first | done | rfl) ?_
    with_reducible refine (ontimeref27_corners.calls 10 9 a b (wrap32 u') d [p', q', r', s'] _ (by rw [eu'.out]; exact cp.out)).mono ?_
    rintro e wv7 ⟨v0, rfl, ho, hb⟩; refine ⟨_, rfl, ?_⟩
    have HC := Aside0.mk (Kd.R_lower ho HB.out.below.size)
    replace HV := Aside0.mk (Kd.R_mono (ok' := fun k => some k ≠ v0.ownBlock) (Kd.R_below (Kd.R_bound HV.out) hb) (fun k hk e => by have := Kd.R_base ho k e.symm; have := hk.2.2.1; omega))
    replace HB := Aside0.mk (HB.out.step hb)
    clear hb ho
    obtain ⟨g0, c0, e0⟩ := Kd.R_slice HC.out
    subst e0
    refine hK.out _ _ ⟨HB.out.c0 0 rfl, HB.out.c1 0 rfl, HB.out.c0 1 rfl, HB.out.c1 1 rfl⟩ (fun hHeld => ?_)
    clear hK K
    refine norm_ (a' := ?_) ?_ ?_; rotate_left
    · show Act.put _ (some 41) _ = _; simp only [Act.put, zA, zB, zC, i64_w, i32_w]; rfl
    refine one_ (i := 11) (N := some 42) (bl 13 4095) rfl rfl (by kernel_rfl) (by decide) (fun K hK => ?_)
    refine Kd.R_append_rows_step (Kd.int .i64) (w0 := w) w.heap.size (by rfl) (.tmp 31) (.tmp 41) 75 2 (.int .i64 0) 8 rfl Try.underlying75 info2 rfl (by decide) (by omega) (v1) [p, q, r, s] [p', q', r', s'] _ _ _ (fun k => some k ≠ (.slice g0 [p', q', r', s'].length c0 : Value).ownBlock) (fun _ => False) rfl rfl ?aO ?aR (fun _ _ h => h) (fun _ h => h.elim) ?aF ?aB ?aS ?aL ?_
    (case aR => exact (Kd.R_reads' HC.out).2.2)
    (case aB => exact HB.out.below)
    (case aF => exact (fun k hk => Kd.fresh' (Kd.R_lt HC.out) k hk))
    (case aO => exact HV.out)
    (case aS => exact HB.out.below.size)
    (case aL => simp)
    intro v1 wv8 ho hb hg hat
    replace HB := Aside0.mk (HB.out.grown hg hb (fun n g a b hn => Kd.R_ne HV.out (HB.out.blk n g a b hn) (by decide)))
    clear HV
    have HV := Aside0.mk (Kd.R_mono ho (fun _ _ => trivial) : Kd.R (Kd.int .i64) 2 wv8 w.heap.size (fun _ => True) v1 ([p, q, r, s] ++ [p', q', r', s']))
    clear ho hb hg hat HC
    refine hK.out _ _ ⟨HB.out.c0 0 rfl, HB.out.c1 0 rfl, HB.out.c0 1 rfl, HB.out.c1 1 rfl⟩ (fun hHeld => ?_)
    clear hK K
    refine norm_ (a' := ?_) ?_ ?_; rotate_left
    · show Act.put _ (some 42) _ = _; simp only [Act.put, zA, zB, zC, i64_w, i32_w]; rfl
    refine pure_ (i := 12) (N := some 5) (v := ?_) (a' := ?_) (bl 13 8191) rfl rfl (by kernel_rfl) (fun _ _ _ h => h) (Or.inl ⟨by rfl, ?_⟩) ?_ ?_
    rotate_left
    · intro w'; go_simp; with_reducible rfl
    rotate_left
    · simp only [Act.put, zA, zB, zC, i64_w, i32_w]; rfl
    refine done_ (by kernel_rfl) ?_
    have C := HB.out.cl
    simp only [Cl, and_true] at C
    obtain ⟨_, _, _, _, _, _, _, _, _, _, _, _⟩ := C
    obtain ⟨gv, cv, ev⟩ := Kd.R_slice HV.out
    subst ev
    go_wp2_with fail
    refine (ontimeref27_hull.calls 10 gv cv ([p, q, r, s] ++ [p', q', r', s']) x y _ (Kd.R_reads' HV.out).2.2 (Kd.R_reads' HV.out).2.1 hx.out).mono ?_; rintro e w' ⟨rfl, hb⟩
    replace HB := Aside0.mk (HB.out.step hb)
    clear hb HV
    have C := HB.out.cl
    simp only [Cl, and_true] at C
    obtain ⟨_, _, _, _, _, _, _, _, _, _, _, _⟩ := C
    go_wp2_with fail
    obtain ⟨R1, R2⟩ := HB.out.ret 2 rfl (by omega) x y
    refine bodyPost_ret (results_cell_row rfl _ _ (w.heap.size + 1 + 1) 51 #[.int .i32 x, .int .i32 y] (0, 0) _ rfl R1 Try.underlying51 rfl (by kernel_rfl)) rfl ⟨rfl, R2⟩

/-! #### the parts joined -/
theorem quot_i32 {x y : Int} (hx : I32 x) (hy : I32 y) (h0 : y ≠ 0) (h : ¬ (x = -2147483648 ∧ y = -1)) : I32 (x.tdiv y) := by
  have h1 : (x.tdiv y).natAbs = x.natAbs / y.natAbs := Int.natAbs_tdiv x y
  have h2 : x.natAbs / y.natAbs ≤ x.natAbs := Nat.div_le_self _ _
  unfold I32 at hx hy ⊢
  by_cases c : x = -2147483648
  · subst c
    by_cases e1 : y = 1
    · subst e1; rw [Int.tdiv_one]; omega
    · have h3 : 2 ≤ y.natAbs := by omega
      have h4 : (-2147483648 : Int).natAbs / y.natAbs ≤ (-2147483648 : Int).natAbs / 2 := Nat.div_le_div_left h3 (by decide)
      have h5 : (-2147483648 : Int).natAbs / 2 = 1073741824 := by decide
      omega
  · omega
theorem exact_q {x y : Int} (hx : I32 x) (hy : I32 y) (h0 : y ≠ 0) : ontimeref27_exact.f 9 x y = some (x.tdiv y) := by
  have hb := tdiv_bound x y
  unfold I32 at hx hy
  unfold ontimeref27_exact.f
  rw [if_neg (by decide), if_neg (by decide), if_neg (by decide), if_neg h0, w64 (by omega)]
theorem hull4_ne (p q r s : Int) : (hull4 p q r s).1 ≤ (hull4 p q r s).2 := by
  unfold hull4 clip fullv
  split
  · decide
  · simp only; omega
theorem join_10 {x y : Int} (h : x ≤ y) : joinv 1 0 x y = (x, y) := by unfold joinv; rw [if_neg (by omega), if_pos (by omega)]
theorem hull4_in {p q r s : Int} (hp : I32 p) (hq : I32 q) (hr : I32 r) (hs : I32 s) : hull4 p q r s = (min (min (min p q) r) s, max (max (max p q) r) s) := by
  unfold I32 at *; unfold hull4 clip; rw [if_neg (by omega)]
theorem join_in {p q r s : Int} (h1 : p ≤ q) (h2 : r ≤ s) : joinv p q r s = (min p r, max q s) := by unfold joinv; rw [if_neg (by omega), if_neg (by omega), if_neg (by omega)]
theorem div5_c (a b c d r s : Int) (ia : I32 a) (ib : I32 b) (ic : I32 c) (id : I32 d) (hab : a ≤ b) (hcd : c ≤ d) (hz : ¬(c = 0 ∧ d = 0)) (h : divv a b c d = (r, s)) (w : World) : Calls Try.prog 71 #[.agg #[.int .i32 a, .int .i32 b], .agg #[.int .i32 c, .int .i32 d]] w fun e w' => e = .returned (.agg #[.int .i32 r, .int .i32 s]) ∧ Below w.heap.size w w' := by
  unfold divv at h
  rw [if_neg hz] at h
  have ba := ia; have bb := ib; have bc := ic; have bd := id
  unfold I32 at ba bb bc bd
  have ea := Aside0.mk (w64 (x := a) (by omega)); have eb := Aside0.mk (w64 (x := b) (by omega)); have ec := Aside0.mk (w64 (x := c) (by omega)); have ed := Aside0.mk (w64 (x := d) (by omega))
  by_cases hF : (a ≤ -2147483648 ∧ -2147483648 ≤ b) ∧ (c ≤ -1 ∧ -1 ≤ d)
  · rw [if_pos hF] at h
    obtain ⟨rfl, rfl⟩ := Prod.mk.inj h
    exact div_full a b c d ⟨decide_eq_true hF.1⟩ ⟨decide_eq_true hF.2⟩ w
  · rw [if_neg hF] at h
    have hh : hasv a b (-2147483648) = false ∨ hasv c d (-1) = false := by
      by_cases k : a ≤ -2147483648 ∧ -2147483648 ≤ b
      · exact .inr (decide_eq_false (fun k2 => hF ⟨k, k2⟩))
      · exact .inl (decide_eq_false k)
    have iu : I32 (min d (-1)) := by unfold I32; omega
    have iu' : I32 (max c 1) := by unfold I32; omega
    have cn : c < 0 → ontimeref27_corners.f 10 9 a b c (min d (-1)) = some [a.tdiv c, a.tdiv (min d (-1)), b.tdiv c, b.tdiv (min d (-1))] := fun k =>
      corners_f 0 9 a b c (min d (-1)) _ _ _ _ ia ib ic iu (exact_q ia ic (by omega)) (exact_q ia iu (by omega)) (exact_q ib ic (by omega)) (exact_q ib iu (by omega))
    have cp : 0 < d → ontimeref27_corners.f 10 9 a b (max c 1) d = some [a.tdiv (max c 1), a.tdiv d, b.tdiv (max c 1), b.tdiv d] := fun k =>
      corners_f 0 9 a b (max c 1) d _ _ _ _ ia ib iu' id (exact_q ia iu' (by omega)) (exact_q ia id (by omega)) (exact_q ib iu' (by omega)) (exact_q ib id (by omega))
    by_cases hc : c < 0 <;> by_cases hd : 0 < d
    · have m1 : meetv c d 1 2147483647 = (max c 1, d) := by unfold meetv; rw [if_neg (by omega), show min d 2147483647 = d by omega]
      have m2 : meetv c d (-2147483648) (-1) = (c, min d (-1)) := by unfold meetv; rw [if_neg (by omega), show max c (-2147483648) = c by omega]
      rw [m1, m2] at h
      simp only [partv] at h
      rw [if_neg (by omega), if_neg (by omega), join_10 (hull4_ne _ _ _ _)] at h
      have q1 := quot_i32 ia ic (by omega) (by omega)
      have q2 := quot_i32 ia iu (by omega) (by omega)
      have q3 := quot_i32 ib ic (by omega) (by omega)
      have q4 := quot_i32 ib iu (by omega) (by omega)
      have q5 := quot_i32 ia iu' (by omega) (by omega)
      have q6 := quot_i32 ia id (by omega) (by omega)
      have q7 := quot_i32 ib iu' (by omega) (by omega)
      have q8 := quot_i32 ib id (by omega) (by omega)
      rw [hull4_in q1 q2 q3 q4, hull4_in q5 q6 q7 q8, join_in (by simp only; omega) (by simp only; omega)] at h
      refine div_np a b c d _ _ _ _ _ _ _ _ _ _ r s _ _ hh ⟨rfl⟩ ⟨rfl⟩ ea eb ec ed (decide_eq_true hc) ⟨rfl⟩ ⟨w32 iu⟩ ⟨cn hc⟩ (decide_eq_true hd) ⟨rfl⟩ ⟨w32 iu'⟩ ⟨cp hd⟩ ⟨?_⟩ w
      refine (hull_f8 0 _ _ _ _ _ _ _ _).trans (congrArg some ?_)
      rw [← h]
      unfold clip
      unfold I32 at q1 q2 q3 q4 q5 q6 q7 q8
      rw [if_neg (by omega)]
    · have m1 : meetv c d 1 2147483647 = (1, 0) := by unfold meetv; rw [if_pos (by omega)]
      have m2 : meetv c d (-2147483648) (-1) = (c, min d (-1)) := by unfold meetv; rw [if_neg (by omega), show max c (-2147483648) = c by omega]
      rw [m1, m2] at h
      simp only [partv] at h
      rw [if_pos (by decide), if_neg (by omega), join_10 (hull4_ne _ _ _ _)] at h
      refine div_n a b c d _ _ _ _ _ 0 0 0 0 0 r s _ _ hh ⟨rfl⟩ ⟨rfl⟩ ea eb ec ed (decide_eq_true hc) ⟨rfl⟩ ⟨w32 iu⟩ ⟨cn hc⟩ (decide_eq_false hd) ⟨?_⟩ w
      exact (hull_f4 0 _ _ _ _).trans (congrArg some h)
    · have m1 : meetv c d 1 2147483647 = (max c 1, d) := by unfold meetv; rw [if_neg (by omega), show min d 2147483647 = d by omega]
      have m2 : meetv c d (-2147483648) (-1) = (1, 0) := by unfold meetv; rw [if_pos (by omega)]
      rw [m1, m2] at h
      simp only [partv] at h
      rw [if_neg (by omega), if_pos (by decide), join_10 (hull4_ne _ _ _ _)] at h
      refine div_p a b c d 0 0 0 0 0 _ _ _ _ _ r s _ _ hh ⟨rfl⟩ ⟨rfl⟩ ea eb ec ed (decide_eq_false hc) (decide_eq_true hd) ⟨rfl⟩ ⟨w32 iu'⟩ ⟨cp hd⟩ ⟨?_⟩ w
      exact (hull_f4 0 _ _ _ _).trans (congrArg some h)
    · exact absurd ⟨by omega, by omega⟩ hz

end Go.Proofs.Ytoalomjmmlnclaa.Ivl5
