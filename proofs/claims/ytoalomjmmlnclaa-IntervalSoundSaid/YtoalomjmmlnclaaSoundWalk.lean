/- The walk of 'IntervalSound': for every operator, every two intervals and every two words the call answers true. -/
import Derived.Test.YtoalomjmmlnclaaIvlF
import Derived.Test.YtoalomjmmlnclaaIvlClamp
import Derived.Test.YtoalomjmmlnclaaIvlSound2
import Derived.Test.YtoalomjmmlnclaaPIntervalApplyx1
namespace Go.Proofs.Ytoalomjmmlnclaa.Sound
open Go.RowKit Go.Proofs.Ytoalomjmmlnclaa.PIntervalApply Go.Proofs.YtoalomjmmlnclaaW.PrintWords Go.Proofs.YtoalomjmmlnclaaW.PrintLast Go.Proofs.YtoalomjmmlnclaaW.PrintMore
open Go.Proofs.Ytoalomjmmlnclaa.M Go.Proofs.Ytoalomjmmlnclaa.Ivl
open List renaming setIfInBounds_toArray → zA, set_cons_zero → zB, set_cons_succ → zC
attribute [local go_sem] max2_int min2_int max_two min_two max_three min_three max_four min_four
attribute [local go_sem high] eqA38
set_option linter.unusedVariables false
set_option linter.unusedSimpArgs false


/-- A block of six words, each from c to d. -/
def Six (W : World) (g : Nat) (c d : Int) : Prop := ∃ v0 v1 v2 v3 v4 v5 : Int, W.heap[g]? = some (.cells #[.int .i32 v0, .int .i32 v1, .int .i32 v2, .int .i32 v3, .int .i32 v4, .int .i32 v5] 21 (0, 0)) ∧ (c ≤ v0 ∧ v0 ≤ d) ∧ (c ≤ v1 ∧ v1 ≤ d) ∧ (c ≤ v2 ∧ v2 ≤ d) ∧ (c ≤ v3 ∧ v3 ≤ d) ∧ (c ≤ v4 ∧ v4 ≤ d) ∧ (c ≤ v5 ∧ v5 ≤ d)
theorem Six.step {W W' : World} {g : Nat} {c d : Int} (h : Six W g c d) (hb : Below W.heap.size W W') : Six W' g c d := by
  obtain ⟨v0, v1, v2, v3, v4, v5, hh, k⟩ := h; exact ⟨v0, v1, v2, v3, v4, v5, blk_below hh hb, k⟩
theorem Six.drew {W : World} {g : Nat} {c d : Int} (h : Six W g c d) : Six W.drew g c d := by
  obtain ⟨v0, v1, v2, v3, v4, v5, hh, k⟩ := h; exact ⟨v0, v1, v2, v3, v4, v5, blk_drew hh, k⟩
theorem Six.drewN {W : World} {g : Nat} {c d : Int} (h : Six W g c d) (m : Nat) : Six (W.drewN m) g c d := by
  obtain ⟨v0, v1, v2, v3, v4, v5, hh, k⟩ := h; exact ⟨v0, v1, v2, v3, v4, v5, blk_drewN hh m, k⟩
theorem Six.alloc {W : World} {g : Nat} {c d : Int} (h : Six W g c d) (o : Obj) : Six (W.alloc o) g c d := by
  obtain ⟨v0, v1, v2, v3, v4, v5, hh, k⟩ := h; exact ⟨v0, v1, v2, v3, v4, v5, blk_alloc hh o, k⟩
theorem Six.at {W : World} {g : Nat} {c d : Int} (h : Six W g c d) {k : Nat} (hk : k < 6) : ∃ v, W.cell? ⟨g, k, none⟩ = some (.int .i32 v) ∧ c ≤ v ∧ v ≤ d := by
  obtain ⟨v0, v1, v2, v3, v4, v5, hh, k0, k1, k2, k3, k4, k5⟩ := h
  rcases k with _ | _ | _ | _ | _ | _ | k
  · exact ⟨v0, (blk_cell hh 0).trans rfl, k0⟩
  · exact ⟨v1, (blk_cell hh 1).trans rfl, k1⟩
  · exact ⟨v2, (blk_cell hh 2).trans rfl, k2⟩
  · exact ⟨v3, (blk_cell hh 3).trans rfl, k3⟩
  · exact ⟨v4, (blk_cell hh 4).trans rfl, k4⟩
  · exact ⟨v5, (blk_cell hh 5).trans rfl, k5⟩
  · omega
def Snd (op a b c d z1 z2 : Int) : Prop := ∀ p q v : Int, a ≤ p → p ≤ b → c ≤ q → q ≤ d → wv op p q = (v, 0) → hasv z1 z2 v = true

theorem clampv_in {a b : Int} (n : Int) (h : a ≤ b) : a ≤ clampv a b n ∧ clampv a b n ≤ b := by unfold clampv; omega

set_option maxHeartbeats 4000000 in
set_option maxRecDepth 100000 in
theorem empty0 (op a1 b1 a2 b2 n m : Int) (hl : decide (b1 < a1) = true) (w : World) : Calls Try.prog 14 #[.int .u8 op, .agg #[.int .i32 a1, .int .i32 b1], .agg #[.int .i32 a2, .int .i32 b2], .int .i32 n, .int .i32 m] w fun e w' => e = .returned (.bool true) ∧ Below w.heap.size w w' := by
  have hu38 := Try.underlying38
  go_enter Try.func14, Try.ntmps14
  go_upto_region 1 with (fail)
  have HB := Aside0.mk (Bx.start2 w a1 b1 a2 b2)
  generalize World.alloc (World.alloc w _) _ = w0 at HB ⊢
  have C := HB.out.cl
  simp only [Cl, and_true] at C
  obtain ⟨_, _, _, _, _, _, _, _⟩ := C
  go_wp2_with fail
  (with_reducible refine (awake_c _).mono ?_); rintro e wv1 ⟨rfl, hb⟩
  replace HB := Aside0.mk (HB.out.step hb)
  clear hb
  have C := HB.out.cl
  simp only [Cl, and_true] at C
  obtain ⟨_, _, _, _, _, _, _, _⟩ := C
  go_wp2_with fail
  (with_reducible refine (awake_c _).mono ?_); rintro e wv2 ⟨rfl, hb⟩
  replace HB := Aside0.mk (HB.out.step hb)
  clear hb
  have C := HB.out.cl
  simp only [Cl, and_true] at C
  obtain ⟨_, _, _, _, _, _, _, _⟩ := C
  go_wp2_with fail
  go_ret
  exact ⟨by first | rfl | (simp; done) | (simp [*]; done), HB.out.below⟩

set_option maxHeartbeats 4000000 in
set_option maxRecDepth 100000 in
theorem empty1 (op a1 b1 a2 b2 n m : Int) (hl : decide (b1 < a1) = false) (hl2 : decide (b2 < a2) = true) (w : World) : Calls Try.prog 14 #[.int .u8 op, .agg #[.int .i32 a1, .int .i32 b1], .agg #[.int .i32 a2, .int .i32 b2], .int .i32 n, .int .i32 m] w fun e w' => e = .returned (.bool true) ∧ Below w.heap.size w w' := by
  have hu38 := Try.underlying38
  go_enter Try.func14, Try.ntmps14
  go_upto_region 1 with (fail)
  have HB := Aside0.mk (Bx.start2 w a1 b1 a2 b2)
  generalize World.alloc (World.alloc w _) _ = w0 at HB ⊢
  have C := HB.out.cl
  simp only [Cl, and_true] at C
  obtain ⟨_, _, _, _, _, _, _, _⟩ := C
  go_wp2_with fail
  (with_reducible refine (awake_c _).mono ?_); rintro e wv1 ⟨rfl, hb⟩
  replace HB := Aside0.mk (HB.out.step hb)
  clear hb
  have C := HB.out.cl
  simp only [Cl, and_true] at C
  obtain ⟨_, _, _, _, _, _, _, _⟩ := C
  go_wp2_with fail
  (with_reducible refine (awake_c _).mono ?_); rintro e wv2 ⟨rfl, hb⟩
  replace HB := Aside0.mk (HB.out.step hb)
  clear hb
  have C := HB.out.cl
  simp only [Cl, and_true] at C
  obtain ⟨_, _, _, _, _, _, _, _⟩ := C
  go_wp2_with fail
  go_ret
  exact ⟨by first | rfl | (simp; done) | (simp [*]; done), HB.out.below⟩

set_option maxHeartbeats 4000000 in
set_option maxRecDepth 100000 in
theorem main (op a1 b1 a2 b2 n m z1 z2 : Int) (i_a1 : Aside0 (I32 a1)) (i_b1 : Aside0 (I32 b1)) (i_a2 : Aside0 (I32 a2)) (i_b2 : Aside0 (I32 b2)) (hz : Aside0 (iv op a1 b1 a2 b2 = (z1, z2))) (hs : Aside0 (Snd op a1 b1 a2 b2 z1 z2)) (hl : decide (b1 < a1) = false) (hl2 : decide (b2 < a2) = false) (hx : Aside0 (a1 ≤ b1)) (hy : Aside0 (a2 ≤ b2)) (w : World) : Calls Try.prog 14 #[.int .u8 op, .agg #[.int .i32 a1, .int .i32 b1], .agg #[.int .i32 a2, .int .i32 b2], .int .i32 n, .int .i32 m] w fun e w' => e = .returned (.bool true) ∧ Below w.heap.size w w' := by
  have hu38 := Try.underlying38
  go_enter Try.func14, Try.ntmps14
  go_upto_region 1 with (fail)
  have HB := Aside0.mk (Bx.start2 w a1 b1 a2 b2)
  generalize World.alloc (World.alloc w _) _ = w0 at HB ⊢
  have C := HB.out.cl
  simp only [Cl, and_true] at C
  obtain ⟨_, _, _, _, _, _, _, _⟩ := C
  go_wp2_with fail
  (with_reducible refine (awake_c _).mono ?_); rintro e wv1 ⟨rfl, hb⟩
  replace HB := Aside0.mk (HB.out.step hb)
  clear hb
  have C := HB.out.cl
  simp only [Cl, and_true] at C
  obtain ⟨_, _, _, _, _, _, _, _⟩ := C
  go_wp2_with fail
  (with_reducible refine (apply_c _ _ _ _ _ _ _ i_a1.out i_b1.out i_a2.out i_b2.out hz.out _).mono ?_); rintro e wv2 ⟨rfl, hb⟩
  replace HB := Aside0.mk (HB.out.step hb)
  clear hb
  have C := HB.out.cl
  simp only [Cl, and_true] at C
  obtain ⟨_, _, _, _, _, _, _, _⟩ := C
  go_upto_region 4 with (fail)
  have hl11 := blk_lt (HB.out.bk 1 rfl)
  replace HB := Aside0.mk (show Bx w [(w.heap.size, a1, b1), (w.heap.size + 1, a2, b2), (wv2.heap.size, z1, z2)] _ from HB.out.box rfl z1 z2)
  generalize World.alloc wv2 _ = wz at HB ⊢
  generalize wv2.heap.size = g11 at HB hl11 ⊢
  have C := HB.out.cl
  simp only [Cl, and_true] at C
  obtain ⟨_, _, _, _, _, _, _, _, _, _, _, _⟩ := C
  replace HB := Aside0.mk (HB.out.drew)
  refine start_ (n := 16) (S := fun w' => w'.cell? ⟨w.heap.size, 0, none⟩ = some (.int .i32 a1) ∧ w'.cell? ⟨w.heap.size, 1, none⟩ = some (.int .i32 b1)) (ds := []) #[false, false, false, false, false, false, false, false, false, false, false, false, false, false, false, false] (by kernel_rfl) rfl rfl ⟨HB.out.c0 0 rfl, HB.out.c1 0 rfl⟩ (fun hHeld => ?_)
  generalize wz.drew = wv3 at HB hHeld ⊢
  refine pure_ (i := 1) (N := some 40) (v := ?_) (a' := ?_) (bl 16 2) rfl rfl (by kernel_rfl) (fun _ _ _ h => h) (Or.inl ⟨by rfl, ?_⟩) ?_ ?_
  rotate_left
  · intro w'; go_simp; with_reducible rfl
  rotate_left
  · simp only [Act.put, zA, zB, zC, i64_w, i32_w]; rfl
  refine pure_ (i := 9) (N := some 48) (v := ?_) (a' := ?_) (bl 16 514) rfl rfl (by kernel_rfl) (fun _ _ _ h => h) (Or.inl ⟨by rfl, ?_⟩) ?_ ?_
  rotate_left
  · intro w'; go_simp; with_reducible rfl
  rotate_left
  · simp only [Act.put, zA, zB, zC, i64_w, i32_w]; rfl
  refine pure_ (i := 11) (N := some 50) (v := ?_) (a' := ?_) (bl 16 2562) rfl rfl (by kernel_rfl) (fun _ _ _ h => h) (Or.inl ⟨by rfl, ?_⟩) ?_ ?_
  rotate_left
  · intro w'; go_simp; with_reducible rfl
  rotate_left
  · simp only [Act.put, zA, zB, zC, i64_w, i32_w]; rfl
  refine pure_ (i := 15) (N := some 54) (v := ?_) (a' := ?_) (bl 16 35330) rfl rfl (by kernel_rfl) (fun _ _ _ h => h) (Or.inl ⟨by rfl, ?_⟩) ?_ ?_
  rotate_left
  · intro w'; go_simp; with_reducible rfl
  rotate_left
  · simp only [Act.put, zA, zB, zC, i64_w, i32_w]; rfl
  refine take_ (i := 0) (N := some 39) (v := ?_) (a' := ?_) (bl 16 35331) rfl rfl (by kernel_rfl) (fun _ _ _ h => h) (Or.inl ⟨by rfl, ?_⟩) hHeld ?_ ?_
  rotate_left
  · rintro w' ⟨s0, s1⟩; go_simp; with_reducible rfl
  rotate_left
  · simp only [Act.put, zA, zB, zC, i64_w, i32_w]; rfl
  refine take_ (i := 3) (N := some 42) (v := ?_) (a' := ?_) (bl 16 35339) rfl rfl (by kernel_rfl) (fun _ _ _ h => h) (Or.inl ⟨by rfl, ?_⟩) hHeld ?_ ?_
  rotate_left
  · rintro w' ⟨s0, s1⟩; go_simp; with_reducible rfl
  rotate_left
  · simp only [Act.put, zA, zB, zC, i64_w, i32_w]; rfl
  refine take_ (i := 5) (N := some 44) (v := ?_) (a' := ?_) (bl 16 35371) rfl rfl (by kernel_rfl) (fun _ _ _ h => h) (Or.inl ⟨by rfl, ?_⟩) hHeld ?_ ?_
  rotate_left
  · rintro w' ⟨s0, s1⟩; go_simp; with_reducible rfl
  rotate_left
  · simp only [Act.put, zA, zB, zC, i64_w, i32_w]; rfl
  refine take_ (i := 7) (N := some 46) (v := ?_) (a' := ?_) (bl 16 35499) rfl rfl (by kernel_rfl) (fun _ _ _ h => h) (Or.inl ⟨by rfl, ?_⟩) hHeld ?_ ?_
  rotate_left
  · rintro w' ⟨s0, s1⟩; go_simp; with_reducible rfl
  rotate_left
  · simp only [Act.put, zA, zB, zC, i64_w, i32_w]; rfl
  refine take_ (i := 10) (N := some 49) (v := ?_) (a' := ?_) (bl 16 36523) rfl rfl (by kernel_rfl) (fun _ _ _ h => h) (Or.inl ⟨by rfl, ?_⟩) hHeld ?_ ?_
  rotate_left
  · rintro w' ⟨s0, s1⟩; go_simp; with_reducible rfl
  rotate_left
  · simp only [Act.put, zA, zB, zC, i64_w, i32_w]; rfl
  refine take_ (i := 12) (N := some 51) (v := ?_) (a' := ?_) (bl 16 40619) rfl rfl (by kernel_rfl) (fun _ _ _ h => h) (Or.inl ⟨by rfl, ?_⟩) hHeld ?_ ?_
  rotate_left
  · rintro w' ⟨s0, s1⟩; go_simp; with_reducible rfl
  rotate_left
  · simp only [Act.put, zA, zB, zC, i64_w, i32_w]; rfl
  refine one_ (i := 2) (N := some 41) (bl 16 40623) rfl rfl (by kernel_rfl) (by decide) (fun K hK => ?_)
  refine goes_ Try.func41 (by kernel_rfl) rfl #[.agg #[.int .i32 a1, .int .i32 b1], .int .i32 n] (by rfl) rfl rfl (by (try simp only [List.map_toArray, List.map_cons, List.map_nil]); first | done | rfl) ?_
  with_reducible refine (clamp_c _ _ _ _ rfl _).mono ?_
  rintro e wv4 ⟨rfl, hb⟩; refine ⟨_, rfl, ?_⟩
  replace HB := Aside0.mk (HB.out.step hb); clear hb
  refine hK.out _ _ ⟨HB.out.c0 0 rfl, HB.out.c1 0 rfl⟩ (fun hHeld => ?_)
  clear hK K
  refine norm_ (a' := ?_) ?_ ?_; rotate_left
  · show Act.put _ (some 41) _ = _; simp only [Act.put, zA, zB, zC, i64_w, i32_w]; rfl
  refine one_ (i := 4) (N := some 43) (bl 16 40639) rfl rfl (by kernel_rfl) (by decide) (fun K hK => ?_)
  refine goes_ Try.func41 (by kernel_rfl) rfl #[.agg #[.int .i32 a1, .int .i32 b1], .int .i32 0] (by rfl) rfl rfl (by (try simp only [List.map_toArray, List.map_cons, List.map_nil]); first | done | rfl) ?_
  with_reducible refine (clamp_c _ _ _ _ rfl _).mono ?_
  rintro e wv5 ⟨rfl, hb⟩; refine ⟨_, rfl, ?_⟩
  replace HB := Aside0.mk (HB.out.step hb); clear hb
  refine hK.out _ _ ⟨HB.out.c0 0 rfl, HB.out.c1 0 rfl⟩ (fun hHeld => ?_)
  clear hK K
  refine norm_ (a' := ?_) ?_ ?_; rotate_left
  · show Act.put _ (some 43) _ = _; simp only [Act.put, zA, zB, zC, i64_w, i32_w]; rfl
  refine one_ (i := 6) (N := some 45) (bl 16 40703) rfl rfl (by kernel_rfl) (by decide) (fun K hK => ?_)
  refine goes_ Try.func41 (by kernel_rfl) rfl #[.agg #[.int .i32 a1, .int .i32 b1], .int .i32 (-1)] (by rfl) rfl rfl (by (try simp only [List.map_toArray, List.map_cons, List.map_nil]); first | done | rfl) ?_
  with_reducible refine (clamp_c _ _ _ _ rfl _).mono ?_
  rintro e wv6 ⟨rfl, hb⟩; refine ⟨_, rfl, ?_⟩
  replace HB := Aside0.mk (HB.out.step hb); clear hb
  refine hK.out _ _ ⟨HB.out.c0 0 rfl, HB.out.c1 0 rfl⟩ (fun hHeld => ?_)
  clear hK K
  refine norm_ (a' := ?_) ?_ ?_; rotate_left
  · show Act.put _ (some 45) _ = _; simp only [Act.put, zA, zB, zC, i64_w, i32_w]; rfl
  refine one_ (i := 8) (N := some 47) (bl 16 40959) rfl rfl (by kernel_rfl) (by decide) (fun K hK => ?_)
  refine goes_ Try.func41 (by kernel_rfl) rfl #[.agg #[.int .i32 a1, .int .i32 b1], .int .i32 1] (by rfl) rfl rfl (by (try simp only [List.map_toArray, List.map_cons, List.map_nil]); first | done | rfl) ?_
  with_reducible refine (clamp_c _ _ _ _ rfl _).mono ?_
  rintro e wv7 ⟨rfl, hb⟩; refine ⟨_, rfl, ?_⟩
  replace HB := Aside0.mk (HB.out.step hb); clear hb
  refine hK.out _ _ ⟨HB.out.c0 0 rfl, HB.out.c1 0 rfl⟩ (fun hHeld => ?_)
  clear hK K
  refine norm_ (a' := ?_) ?_ ?_; rotate_left
  · show Act.put _ (some 47) _ = _; simp only [Act.put, zA, zB, zC, i64_w, i32_w]; rfl
  refine one_ (i := 13) (N := some 52) (bl 16 49151) rfl rfl (by kernel_rfl) (by decide) (fun K hK => ?_)
  refine value_ (w1 := ?_) (v := ?_) (by rfl) rfl ?_ ?_
  rotate_left 2
  · go_simp
    constructor
    · rfl
    · rfl
  have HS4 : Aside0 (Six _ _ a1 b1) := ⟨⟨_, _, _, _, _, _, blk_new wv7 (.cells #[.int .i32 (clampv a1 b1 n), .int .i32 (clampv a1 b1 0), .int .i32 (clampv a1 b1 (-1)), .int .i32 (clampv a1 b1 1), .int .i32 (a1), .int .i32 (b1)] 21), clampv_in _ hx.out, clampv_in _ hx.out, clampv_in _ hx.out, clampv_in _ hx.out, ⟨Int.le_refl _, hx.out⟩, ⟨hx.out, Int.le_refl _⟩⟩⟩
  replace HB := Aside0.mk (HB.out.alloc (.cells #[.int .i32 (clampv a1 b1 n), .int .i32 (clampv a1 b1 0), .int .i32 (clampv a1 b1 (-1)), .int .i32 (clampv a1 b1 1), .int .i32 (a1), .int .i32 (b1)] 21))
  generalize World.alloc wv7 _ = ws4 at HB HS4 ⊢
  generalize wv7.heap.size = gs at HS4 ⊢
  refine hK.out _ _ ⟨HB.out.c0 0 rfl, HB.out.c1 0 rfl⟩ (fun hHeld => ?_)
  clear hK K
  refine norm_ (a' := ?_) ?_ ?_; rotate_left
  · show Act.put _ (some 52) _ = _; simp only [Act.put, zA, zB, zC, i64_w, i32_w]; rfl
  refine pure_ (i := 14) (N := some 53) (v := ?_) (a' := ?_) (bl 16 65535) rfl rfl (by kernel_rfl) (fun _ _ _ h => h) (Or.inl ⟨by rfl, ?_⟩) ?_ ?_
  rotate_left
  · intro w'; go_simp; with_reducible rfl
  rotate_left
  · simp only [Act.put, zA, zB, zC, i64_w, i32_w]; rfl
  refine done_ (by kernel_rfl) ?_
  have C := HB.out.cl
  simp only [Cl, and_true] at C
  obtain ⟨_, _, _, _, _, _, _, _, _, _, _, _⟩ := C
  go_wp2_with fail
  go_loopg [54] 6 (fun kq v54 w' => ∃ i : Nat, i + kq = 6 ∧ v54 = .int .i64 (i : Int) ∧ Aside0 (Bx w [(w.heap.size, a1, b1), (w.heap.size + 1, a2, b2), (g11, z1, z2)] w') ∧ Aside0 (Six w' gs a1 b1))
  case atStart => exact ⟨0, rfl, rfl, HB, HS4⟩
  case round =>
    clear HB HS4
    obtain ⟨i, hi, rfl, HB, HS4⟩ := hrel
    by_cases h6 : i < 6
    · skip
      obtain ⟨x, hcx, hx1, hx2⟩ := HS4.out.at h6
      have hxx := Aside0.mk (And.intro hx1 hx2)
      clear hx1 hx2
      have hd : decide ((i : Int) < 6) = true := decide_eq_true (by omega)
      have hi0 : (0 : Int) ≤ i := by omega
      have C := HB.out.cl
      simp only [Cl, and_true] at C
      obtain ⟨_, _, _, _, _, _, _, _, _, _, _, _⟩ := C
      go_upto_region 7 with (fail)
      replace HB := Aside0.mk (HB.out.drew)
      replace HS4 := Aside0.mk (HS4.out.drew)
      refine start_ (n := 16) (S := fun w' => w'.cell? ⟨w.heap.size + 1, 0, none⟩ = some (.int .i32 a2) ∧ w'.cell? ⟨w.heap.size + 1, 1, none⟩ = some (.int .i32 b2)) (ds := []) #[false, false, false, false, false, false, false, false, false, false, false, false, false, false, false, false] (by kernel_rfl) rfl rfl ⟨HB.out.c0 1 rfl, HB.out.c1 1 rfl⟩ (fun hHeld => ?_)
      generalize wr.drew = wv8 at HB HS4 hHeld ⊢
      refine pure_ (i := 1) (N := some 59) (v := ?_) (a' := ?_) (bl 16 2) rfl rfl (by kernel_rfl) (fun _ _ _ h => h) (Or.inl ⟨by rfl, ?_⟩) ?_ ?_
      rotate_left
      · intro w'; go_simp; with_reducible rfl
      rotate_left
      · simp only [Act.put, zA, zB, zC, i64_w, i32_w]; rfl
      refine pure_ (i := 9) (N := some 67) (v := ?_) (a' := ?_) (bl 16 514) rfl rfl (by kernel_rfl) (fun _ _ _ h => h) (Or.inl ⟨by rfl, ?_⟩) ?_ ?_
      rotate_left
      · intro w'; go_simp; with_reducible rfl
      rotate_left
      · simp only [Act.put, zA, zB, zC, i64_w, i32_w]; rfl
      refine pure_ (i := 11) (N := some 69) (v := ?_) (a' := ?_) (bl 16 2562) rfl rfl (by kernel_rfl) (fun _ _ _ h => h) (Or.inl ⟨by rfl, ?_⟩) ?_ ?_
      rotate_left
      · intro w'; go_simp; with_reducible rfl
      rotate_left
      · simp only [Act.put, zA, zB, zC, i64_w, i32_w]; rfl
      refine pure_ (i := 15) (N := some 73) (v := ?_) (a' := ?_) (bl 16 35330) rfl rfl (by kernel_rfl) (fun _ _ _ h => h) (Or.inl ⟨by rfl, ?_⟩) ?_ ?_
      rotate_left
      · intro w'; go_simp; with_reducible rfl
      rotate_left
      · simp only [Act.put, zA, zB, zC, i64_w, i32_w]; rfl
      refine take_ (i := 0) (N := some 58) (v := ?_) (a' := ?_) (bl 16 35331) rfl rfl (by kernel_rfl) (fun _ _ _ h => h) (Or.inl ⟨by rfl, ?_⟩) hHeld ?_ ?_
      rotate_left
      · rintro w' ⟨s0, s1⟩; go_simp; with_reducible rfl
      rotate_left
      · simp only [Act.put, zA, zB, zC, i64_w, i32_w]; rfl
      refine take_ (i := 3) (N := some 61) (v := ?_) (a' := ?_) (bl 16 35339) rfl rfl (by kernel_rfl) (fun _ _ _ h => h) (Or.inl ⟨by rfl, ?_⟩) hHeld ?_ ?_
      rotate_left
      · rintro w' ⟨s0, s1⟩; go_simp; with_reducible rfl
      rotate_left
      · simp only [Act.put, zA, zB, zC, i64_w, i32_w]; rfl
      refine take_ (i := 5) (N := some 63) (v := ?_) (a' := ?_) (bl 16 35371) rfl rfl (by kernel_rfl) (fun _ _ _ h => h) (Or.inl ⟨by rfl, ?_⟩) hHeld ?_ ?_
      rotate_left
      · rintro w' ⟨s0, s1⟩; go_simp; with_reducible rfl
      rotate_left
      · simp only [Act.put, zA, zB, zC, i64_w, i32_w]; rfl
      refine take_ (i := 7) (N := some 65) (v := ?_) (a' := ?_) (bl 16 35499) rfl rfl (by kernel_rfl) (fun _ _ _ h => h) (Or.inl ⟨by rfl, ?_⟩) hHeld ?_ ?_
      rotate_left
      · rintro w' ⟨s0, s1⟩; go_simp; with_reducible rfl
      rotate_left
      · simp only [Act.put, zA, zB, zC, i64_w, i32_w]; rfl
      refine take_ (i := 10) (N := some 68) (v := ?_) (a' := ?_) (bl 16 36523) rfl rfl (by kernel_rfl) (fun _ _ _ h => h) (Or.inl ⟨by rfl, ?_⟩) hHeld ?_ ?_
      rotate_left
      · rintro w' ⟨s0, s1⟩; go_simp; with_reducible rfl
      rotate_left
      · simp only [Act.put, zA, zB, zC, i64_w, i32_w]; rfl
      refine take_ (i := 12) (N := some 70) (v := ?_) (a' := ?_) (bl 16 40619) rfl rfl (by kernel_rfl) (fun _ _ _ h => h) (Or.inl ⟨by rfl, ?_⟩) hHeld ?_ ?_
      rotate_left
      · rintro w' ⟨s0, s1⟩; go_simp; with_reducible rfl
      rotate_left
      · simp only [Act.put, zA, zB, zC, i64_w, i32_w]; rfl
      refine one_ (i := 2) (N := some 60) (bl 16 40623) rfl rfl (by kernel_rfl) (by decide) (fun K hK => ?_)
      refine goes_ Try.func41 (by kernel_rfl) rfl #[.agg #[.int .i32 a2, .int .i32 b2], .int .i32 m] (by rfl) rfl rfl (by (try simp only [List.map_toArray, List.map_cons, List.map_nil]); first | done | rfl) ?_
      with_reducible refine (clamp_c _ _ _ _ rfl _).mono ?_
      rintro e wv9 ⟨rfl, hb⟩; refine ⟨_, rfl, ?_⟩
      replace HS4 := Aside0.mk (HS4.out.step hb)
      replace HB := Aside0.mk (HB.out.step hb); clear hb
      refine hK.out _ _ ⟨HB.out.c0 1 rfl, HB.out.c1 1 rfl⟩ (fun hHeld => ?_)
      clear hK K
      refine norm_ (a' := ?_) ?_ ?_; rotate_left
      · show Act.put _ (some 60) _ = _; simp only [Act.put, zA, zB, zC, i64_w, i32_w]; rfl
      refine one_ (i := 4) (N := some 62) (bl 16 40639) rfl rfl (by kernel_rfl) (by decide) (fun K hK => ?_)
      refine goes_ Try.func41 (by kernel_rfl) rfl #[.agg #[.int .i32 a2, .int .i32 b2], .int .i32 0] (by rfl) rfl rfl (by (try simp only [List.map_toArray, List.map_cons, List.map_nil]); first | done | rfl) ?_
      with_reducible refine (clamp_c _ _ _ _ rfl _).mono ?_
      rintro e wv10 ⟨rfl, hb⟩; refine ⟨_, rfl, ?_⟩
      replace HS4 := Aside0.mk (HS4.out.step hb)
      replace HB := Aside0.mk (HB.out.step hb); clear hb
      refine hK.out _ _ ⟨HB.out.c0 1 rfl, HB.out.c1 1 rfl⟩ (fun hHeld => ?_)
      clear hK K
      refine norm_ (a' := ?_) ?_ ?_; rotate_left
      · show Act.put _ (some 62) _ = _; simp only [Act.put, zA, zB, zC, i64_w, i32_w]; rfl
      refine one_ (i := 6) (N := some 64) (bl 16 40703) rfl rfl (by kernel_rfl) (by decide) (fun K hK => ?_)
      refine goes_ Try.func41 (by kernel_rfl) rfl #[.agg #[.int .i32 a2, .int .i32 b2], .int .i32 (-1)] (by rfl) rfl rfl (by (try simp only [List.map_toArray, List.map_cons, List.map_nil]); first | done | rfl) ?_
      with_reducible refine (clamp_c _ _ _ _ rfl _).mono ?_
      rintro e wv11 ⟨rfl, hb⟩; refine ⟨_, rfl, ?_⟩
      replace HS4 := Aside0.mk (HS4.out.step hb)
      replace HB := Aside0.mk (HB.out.step hb); clear hb
      refine hK.out _ _ ⟨HB.out.c0 1 rfl, HB.out.c1 1 rfl⟩ (fun hHeld => ?_)
      clear hK K
      refine norm_ (a' := ?_) ?_ ?_; rotate_left
      · show Act.put _ (some 64) _ = _; simp only [Act.put, zA, zB, zC, i64_w, i32_w]; rfl
      refine one_ (i := 8) (N := some 66) (bl 16 40959) rfl rfl (by kernel_rfl) (by decide) (fun K hK => ?_)
      refine goes_ Try.func41 (by kernel_rfl) rfl #[.agg #[.int .i32 a2, .int .i32 b2], .int .i32 1] (by rfl) rfl rfl (by (try simp only [List.map_toArray, List.map_cons, List.map_nil]); first | done | rfl) ?_
      with_reducible refine (clamp_c _ _ _ _ rfl _).mono ?_
      rintro e wv12 ⟨rfl, hb⟩; refine ⟨_, rfl, ?_⟩
      replace HS4 := Aside0.mk (HS4.out.step hb)
      replace HB := Aside0.mk (HB.out.step hb); clear hb
      refine hK.out _ _ ⟨HB.out.c0 1 rfl, HB.out.c1 1 rfl⟩ (fun hHeld => ?_)
      clear hK K
      refine norm_ (a' := ?_) ?_ ?_; rotate_left
      · show Act.put _ (some 66) _ = _; simp only [Act.put, zA, zB, zC, i64_w, i32_w]; rfl
      refine one_ (i := 13) (N := some 71) (bl 16 49151) rfl rfl (by kernel_rfl) (by decide) (fun K hK => ?_)
      refine value_ (w1 := ?_) (v := ?_) (by rfl) rfl ?_ ?_
      rotate_left 2
      · go_simp
        constructor
        · rfl
        · rfl
      have HS7 : Aside0 (Six _ _ a2 b2) := ⟨⟨_, _, _, _, _, _, blk_new wv12 (.cells #[.int .i32 (clampv a2 b2 m), .int .i32 (clampv a2 b2 0), .int .i32 (clampv a2 b2 (-1)), .int .i32 (clampv a2 b2 1), .int .i32 (a2), .int .i32 (b2)] 21), clampv_in _ hy.out, clampv_in _ hy.out, clampv_in _ hy.out, clampv_in _ hy.out, ⟨Int.le_refl _, hy.out⟩, ⟨hy.out, Int.le_refl _⟩⟩⟩
      replace HB := Aside0.mk (HB.out.alloc (.cells #[.int .i32 (clampv a2 b2 m), .int .i32 (clampv a2 b2 0), .int .i32 (clampv a2 b2 (-1)), .int .i32 (clampv a2 b2 1), .int .i32 (a2), .int .i32 (b2)] 21))
      replace HS4 := Aside0.mk (HS4.out.alloc (.cells #[.int .i32 (clampv a2 b2 m), .int .i32 (clampv a2 b2 0), .int .i32 (clampv a2 b2 (-1)), .int .i32 (clampv a2 b2 1), .int .i32 (a2), .int .i32 (b2)] 21))
      generalize World.alloc wv12 _ = ws7 at HB HS7 HS4 ⊢
      generalize wv12.heap.size = gt at HS7 ⊢
      refine hK.out _ _ ⟨HB.out.c0 1 rfl, HB.out.c1 1 rfl⟩ (fun hHeld => ?_)
      clear hK K
      refine norm_ (a' := ?_) ?_ ?_; rotate_left
      · show Act.put _ (some 71) _ = _; simp only [Act.put, zA, zB, zC, i64_w, i32_w]; rfl
      refine pure_ (i := 14) (N := some 72) (v := ?_) (a' := ?_) (bl 16 65535) rfl rfl (by kernel_rfl) (fun _ _ _ h => h) (Or.inl ⟨by rfl, ?_⟩) ?_ ?_
      rotate_left
      · intro w'; go_simp; with_reducible rfl
      rotate_left
      · simp only [Act.put, zA, zB, zC, i64_w, i32_w]; rfl
      refine done_ (by kernel_rfl) ?_
      have C := HB.out.cl
      simp only [Cl, and_true] at C
      obtain ⟨_, _, _, _, _, _, _, _, _, _, _, _⟩ := C
      go_wp2_with fail
      go_loopg [73] 6 (fun kq v73 w' => ∃ j : Nat, j + kq = 6 ∧ v73 = .int .i64 (j : Int) ∧ Aside0 (Bx w [(w.heap.size, a1, b1), (w.heap.size + 1, a2, b2), (g11, z1, z2)] w') ∧ Aside0 (Six w' gs a1 b1) ∧ Aside0 (Six w' gt a2 b2))
      case atStart => exact ⟨0, rfl, rfl, HB, HS4, HS7⟩
      case round =>
        clear HB HS4 HS7
        obtain ⟨j, hj, rfl, HB, HS4, HS7⟩ := hrel
        by_cases h7 : j < 6
        · obtain ⟨y, hcy, hy1, hy2⟩ := HS7.out.at h7
          have hyy := Aside0.mk (And.intro hy1 hy2)
          clear hy1 hy2
          have hd7 : decide ((j : Int) < 6) = true := decide_eq_true (by omega)
          have hj0 : (0 : Int) ≤ j := by omega
          generalize hv : wv op x y = p
          obtain ⟨v, e⟩ := p
          have HV := Aside0.mk hv
          clear hv
          by_cases he : e = 0
          · subst he
            have hk := Aside0.mk (hs.out x y v hxx.out.1 hxx.out.2 hyy.out.1 hyy.out.2 HV.out)
            go_wp2_with fail
            (with_reducible refine (word_c _ _ _ _ _ HV.out _).mono ?_); rintro z w1 ⟨rfl, nd, rfl⟩
            replace HB := Aside0.mk (HB.out.drewN nd)
            replace HS4 := Aside0.mk (HS4.out.drewN nd)
            replace HS7 := Aside0.mk (HS7.out.drewN nd)
            generalize World.drewN wr nd = w1 at HB HS4 HS7 ⊢
            have C := HB.out.cl
            simp only [Cl, and_true] at C
            obtain ⟨_, _, _, _, _, _, _, _, _, _, _, _⟩ := C
            go_wp2_with fail
            (with_reducible refine (contains_c _ _ _ _ hk.out _).mono ?_); rintro z w2 ⟨rfl, hb⟩
            replace HB := Aside0.mk (HB.out.step hb)
            replace HS4 := Aside0.mk (HS4.out.step hb)
            replace HS7 := Aside0.mk (HS7.out.step hb)
            clear hb
            go_wp2_with fail
            go_roundg (5 - j)
            case measure => omega
            case rel => exact ⟨j + 1, by omega, by simp, HB, HS4, HS7⟩
          · have he1 : (e == 0) = false := by simpa using he
            have he2 : decide (e = 0) = false := decide_eq_false he
            clear he
            go_wp2_with fail
            (with_reducible refine (word_c _ _ _ _ _ HV.out _).mono ?_); rintro z w1 ⟨rfl, nd, rfl⟩
            replace HB := Aside0.mk (HB.out.drewN nd)
            replace HS4 := Aside0.mk (HS4.out.drewN nd)
            replace HS7 := Aside0.mk (HS7.out.drewN nd)
            generalize World.drewN wr nd = w1 at HB HS4 HS7 ⊢
            go_wp2_with fail
            go_roundg (5 - j)
            case measure => omega
            case rel => exact ⟨j + 1, by omega, by simp, HB, HS4, HS7⟩
        · have hd7 : decide ((j : Int) < 6) = false := decide_eq_false (by omega)
          clear hd
          go_wp2_with fail
          go_roundg (5 - i)
          case measure => omega
          case rel => exact ⟨i + 1, by omega, by simp, HB, HS4⟩
    · skip
      have hd : decide ((i : Int) < 6) = false := decide_eq_false (by omega)
      go_wp2_with fail
      go_ret
      exact ⟨by first | rfl | (simp; done) | (simp [*]; done), HB.out.below⟩

theorem walk (op a1 b1 a2 b2 n m : Int) (w : World) (_ : (Lit.int .u8 op).wf = true) (wa : (Lit.int .i32 a1).wf = true) (wb : (Lit.int .i32 b1).wf = true) (wc : (Lit.int .i32 a2).wf = true) (wd : (Lit.int .i32 b2).wf = true) (_ : (Lit.int .i32 n).wf = true) (_ : (Lit.int .i32 m).wf = true) : Calls Try.prog 14 #[.int .u8 op, .agg #[.int .i32 a1, .int .i32 b1], .agg #[.int .i32 a2, .int .i32 b2], .int .i32 n, .int .i32 m] w fun e w' => e = .returned (.bool true) ∧ Below w.heap.size w w' := by
  have ia := i32_wf wa
  have ib := i32_wf wb
  have ic := i32_wf wc
  have id := i32_wf wd
  by_cases e1 : b1 < a1
  · exact empty0 op a1 b1 a2 b2 n m (decide_eq_true e1) w
  by_cases e2 : b2 < a2
  · exact empty1 op a1 b1 a2 b2 n m (decide_eq_false e1) (decide_eq_true e2) w
  have S : Snd op a1 b1 a2 b2 (iv op a1 b1 a2 b2).1 (iv op a1 b1 a2 b2).2 := by
    intro p q v h1 h2 h3 h4 hv
    by_cases o6 : op < 6
    · exfalso
      have : (wv op p q).2 = 1 := by unfold wv; simp [show op ≠ 6 by omega, show op ≠ 7 by omega, show op ≠ 8 by omega, show op ≠ 9 by omega, show op ≠ 10 by omega, show op ≠ 11 by omega, show op ≠ 12 by omega, show op ≠ 13 by omega, show op ≠ 14 by omega, show op ≠ 15 by omega, show op ≠ 16 by omega, show op ≠ 17 by omega, show op ≠ 18 by omega, show op ≠ 19 by omega, show op ≠ 20 by omega, show op ≠ 21 by omega, show op ≠ 22 by omega, show op ≠ 23 by omega]
      rw [hv] at this; cases this
    by_cases o23 : 23 < op
    · exfalso
      have : (wv op p q).2 = 1 := by unfold wv; simp [show op ≠ 6 by omega, show op ≠ 7 by omega, show op ≠ 8 by omega, show op ≠ 9 by omega, show op ≠ 10 by omega, show op ≠ 11 by omega, show op ≠ 12 by omega, show op ≠ 13 by omega, show op ≠ 14 by omega, show op ≠ 15 by omega, show op ≠ 16 by omega, show op ≠ 17 by omega, show op ≠ 18 by omega, show op ≠ 19 by omega, show op ≠ 20 by omega, show op ≠ 21 by omega, show op ≠ 22 by omega, show op ≠ 23 by omega]
      rw [hv] at this; cases this
    have k := iv_sound (by omega) (by omega) ia ib ic id h1 h2 h3 h4 hv
    unfold hasv; exact decide_eq_true k
  exact main op a1 b1 a2 b2 n m _ _ ⟨ia⟩ ⟨ib⟩ ⟨ic⟩ ⟨id⟩ ⟨rfl⟩ ⟨S⟩ (decide_eq_false e1) (decide_eq_false e2) ⟨by omega⟩ ⟨by omega⟩ w

end Go.Proofs.Ytoalomjmmlnclaa.Sound
