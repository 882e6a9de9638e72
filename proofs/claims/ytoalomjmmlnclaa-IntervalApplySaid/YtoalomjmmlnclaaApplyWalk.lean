/- The walk of 'IntervalApply': for every operator and every two intervals the layer's answer is the reference's. -/
import Derived.Test.YtoalomjmmlnclaaIvlF
import Derived.Test.YtoalomjmmlnclaaRefQ
import Derived.Test.YtoalomjmmlnclaaQ1
namespace Go.Proofs.Ytoalomjmmlnclaa.Apply27
open Go.RowKit Go.Proofs.Ytoalomjmmlnclaa.PIntervalApply Go.Proofs.YtoalomjmmlnclaaW.PrintWords Go.Proofs.YtoalomjmmlnclaaW.PrintLast
open Go.Proofs.Ytoalomjmmlnclaa.M Go.Proofs.Ytoalomjmmlnclaa.Ivl
open List renaming setIfInBounds_toArray → zA, set_cons_zero → zB, set_cons_succ → zC
attribute [local go_sem] max2_int min2_int max_two min_two max_three min_three max_four min_four
attribute [local go_sem high] eqA38 Ivl5.eqA51
set_option linter.unusedVariables false
set_option linter.unusedSimpArgs false


theorem Bx.far {w W : World} {L : List (Nat × Int × Int)} (h : Bx w L W) {g8 : Nat} (hne : ∀ (n g : Nat) (a b : Int), L[n]? = some (g, a, b) → g ≠ g8) (hg : w.heap.size ≤ g8) (u v : Value) : Bx w L ((W.setCell ⟨g8, 0, none⟩ u).setCell ⟨g8, 1, none⟩ v) :=
  ⟨fun n g a b hn => blk_far (blk_far (h.blk n g a b hn) (p := ⟨g8, 0, none⟩) (hne n g a b hn) _) (p := ⟨g8, 1, none⟩) (hne n g a b hn) _, below_set (below_set h.below hg) hg⟩

set_option maxHeartbeats 4000000 in
set_option maxRecDepth 100000 in
theorem main (op a1 b1 a2 b2 z1 z2 : Int) (i_a1 : Aside0 (I32 a1)) (i_b1 : Aside0 (I32 b1)) (i_a2 : Aside0 (I32 a2)) (i_b2 : Aside0 (I32 b2)) (hz : Aside0 (iv op a1 b1 a2 b2 = (z1, z2))) (w : World) : Calls Try.prog 13 #[.int .u8 op, .agg #[.int .i32 a1, .int .i32 b1], .agg #[.int .i32 a2, .int .i32 b2]] w fun e w' => e = .returned (.bool true) ∧ Below w.heap.size w w' := by
  have hu38 := Try.underlying38
  go_enter Try.func13, Try.ntmps13
  go_upto_region 1 with (fail)
  have HB := Aside0.mk (Bx.start2 w a1 b1 a2 b2)
  generalize World.alloc (World.alloc w _) _ = w0 at HB ⊢
  have C := HB.out.cl
  simp only [Cl, and_true] at C
  obtain ⟨_, _, _, _, _, _, _, _⟩ := C
  go_wp2_with fail
  (with_reducible refine (apply_c _ _ _ _ _ _ _ i_a1.out i_b1.out i_a2.out i_b2.out hz.out _).mono ?_); rintro e wv1 ⟨rfl, hb⟩
  replace HB := Aside0.mk (HB.out.step hb)
  clear hb
  have C := HB.out.cl
  simp only [Cl, and_true] at C
  obtain ⟨_, _, _, _, _, _, _, _⟩ := C
  go_upto_region 2 with (fail)
  have hl7 := blk_lt (HB.out.bk 1 rfl)
  replace HB := Aside0.mk (show Bx w [(w.heap.size, a1, b1), (w.heap.size + 1, a2, b2), (wv1.heap.size, z1, z2)] _ from HB.out.box rfl z1 z2)
  generalize World.alloc wv1 _ = wz at HB ⊢
  generalize wv1.heap.size = g7 at HB hl7 ⊢
  have C := HB.out.cl
  simp only [Cl, and_true] at C
  obtain ⟨_, _, _, _, _, _, _, _, _, _, _, _⟩ := C
  replace HB := Aside0.mk (HB.out.drew)
  refine start_ (n := 8) (S := fun w' => w'.cell? ⟨w.heap.size, 0, none⟩ = some (.int .i32 a1) ∧ w'.cell? ⟨w.heap.size, 1, none⟩ = some (.int .i32 b1) ∧ w'.cell? ⟨w.heap.size + 1, 0, none⟩ = some (.int .i32 a2) ∧ w'.cell? ⟨w.heap.size + 1, 1, none⟩ = some (.int .i32 b2)) (ds := [7]) #[false, false, false, false, false, false, false, false] (by kernel_rfl) rfl rfl ⟨HB.out.c0 0 rfl, HB.out.c1 0 rfl, HB.out.c0 1 rfl, HB.out.c1 1 rfl⟩ (fun hHeld => ?_)
  generalize wz.drew = w9 at HB hHeld ⊢
  refine pure_ (i := 0) (N := some 13) (v := ?_) (a' := ?_) (bl 8 1) rfl rfl (by kernel_rfl) (fun _ _ _ h => h) (Or.inl ⟨by rfl, ?_⟩) ?_ ?_
  rotate_left
  · intro w'; go_simp; with_reducible rfl
  rotate_left
  · simp only [Act.put, zA, zB, zC, i64_w, i32_w]; rfl
  refine take_ (i := 1) (N := some 14) (v := ?_) (a' := ?_) (bl 8 3) rfl rfl (by kernel_rfl) (fun _ _ _ h => h) (Or.inl ⟨by rfl, ?_⟩) hHeld ?_ ?_
  rotate_left
  · rintro w' ⟨s0, s1, s2, s3⟩; go_simp; with_reducible rfl
  rotate_left
  · simp only [Act.put, zA, zB, zC, i64_w, i32_w]; rfl
  refine take_ (i := 3) (N := some 16) (v := ?_) (a' := ?_) (bl 8 11) rfl rfl (by kernel_rfl) (fun _ _ _ h => h) (Or.inl ⟨by rfl, ?_⟩) hHeld ?_ ?_
  rotate_left
  · rintro w' ⟨s0, s1, s2, s3⟩; go_simp; with_reducible rfl
  rotate_left
  · simp only [Act.put, zA, zB, zC, i64_w, i32_w]; rfl
  refine join_ (σ := Nat) 1 (bl 8 127) (fun sg => [(15, .agg #[.int .i32 a1, .int .i32 b1]), (17, .agg #[.int .i32 a2, .int .i32 b2]), (18, .agg #[.int .i32 z1, .int .i32 z2]), (8, .pointer (some ⟨sg, 0, none⟩))]) (fun sg w' => Bx w [(w.heap.size, a1, b1), (w.heap.size + 1, a2, b2), (g7, z1, z2)] w' ∧ w'.heap[sg]? = some (.cells #[.int .i32 0, .int .i32 0] 51 (0, 0)) ∧ w.heap.size + 1 < sg ∧ g7 < sg) ?_ ?_
  rotate_left
  · intro hCont
    as_aux_lemma =>
    as_aux_lemma =>
    refine two_ (i := 2) (j := 6) (Ni := some 15) (Nj := some 8) (bl 8 15) (bl 8 75) rfl rfl rfl rfl (by kernel_rfl) (by decide) (by decide) (fun K hK => ?_) (fun K hK => ?_)
    · skip
      refine goes_ Try.func40 (by kernel_rfl) rfl #[.agg #[.int .i32 a1, .int .i32 b1]] (by rfl) rfl rfl (by (try simp only [List.map_toArray, List.map_cons, List.map_nil]); first | done | rfl) ?_
      with_reducible refine (Ivl5.plain_c _ _ _).mono ?_
      rintro e vv2 ⟨rfl, hb⟩; refine ⟨_, rfl, ?_⟩
      replace HB := Aside0.mk (HB.out.step hb); clear hb
      refine hK.out _ _ ⟨HB.out.c0 0 rfl, HB.out.c1 0 rfl, HB.out.c0 1 rfl, HB.out.c1 1 rfl⟩ (fun hHeld => ?_)
      clear hK K
      refine norm_ (a' := ?_) ?_ ?_; rotate_left
      · show Act.put _ (some 15) _ = _; simp only [Act.put, zA, zB, zC, i64_w, i32_w]; rfl
      refine two_ (i := 4) (j := 6) (Ni := some 17) (Nj := some 8) (bl 8 31) (bl 8 79) rfl rfl rfl rfl (by kernel_rfl) (by decide) (by decide) (fun K hK => ?_) (fun K hK => ?_)
      · skip
        refine goes_ Try.func40 (by kernel_rfl) rfl #[.agg #[.int .i32 a2, .int .i32 b2]] (by rfl) rfl rfl (by (try simp only [List.map_toArray, List.map_cons, List.map_nil]); first | done | rfl) ?_
        with_reducible refine (Ivl5.plain_c _ _ _).mono ?_
        rintro e vv4 ⟨rfl, hb⟩; refine ⟨_, rfl, ?_⟩
        replace HB := Aside0.mk (HB.out.step hb); clear hb
        refine hK.out _ _ ⟨HB.out.c0 0 rfl, HB.out.c1 0 rfl, HB.out.c0 1 rfl, HB.out.c1 1 rfl⟩ (fun hHeld => ?_)
        clear hK K
        refine norm_ (a' := ?_) ?_ ?_; rotate_left
        · show Act.put _ (some 17) _ = _; simp only [Act.put, zA, zB, zC, i64_w, i32_w]; rfl
        refine two_ (i := 5) (j := 6) (Ni := some 18) (Nj := some 8) (bl 8 63) (bl 8 95) rfl rfl rfl rfl (by kernel_rfl) (by decide) (by decide) (fun K hK => ?_) (fun K hK => ?_)
        · skip
          refine goes_ Try.func39 (by kernel_rfl) rfl #[.int .u8 op, .agg #[.int .i32 a1, .int .i32 b1], .agg #[.int .i32 a2, .int .i32 b2]] (by rfl) rfl rfl (by (try simp only [List.map_toArray, List.map_cons, List.map_nil]); first | done | rfl) ?_
          with_reducible refine (Ivl5.apply5_c _ _ _ _ _ _ _ i_a1.out i_b1.out i_a2.out i_b2.out hz.out _).mono ?_
          rintro e vv5 ⟨rfl, hb⟩; refine ⟨_, rfl, ?_⟩
          replace HB := Aside0.mk (HB.out.step hb); clear hb
          refine hK.out _ _ ⟨HB.out.c0 0 rfl, HB.out.c1 0 rfl, HB.out.c0 1 rfl, HB.out.c1 1 rfl⟩ (fun hHeld => ?_)
          clear hK K
          refine norm_ (a' := ?_) ?_ ?_; rotate_left
          · show Act.put _ (some 18) _ = _; simp only [Act.put, zA, zB, zC, i64_w, i32_w]; rfl
          refine one_ (i := 6) (N := some 8) (bl 8 127) rfl rfl (by kernel_rfl) (by decide) (fun K hK => ?_)
          refine value_ (w1 := ?_) (v := ?_) (by rfl) rfl ?_ ?_
          rotate_left 2
          · go_simp
            constructor
            · rfl
            · rfl
          have hz0 := HB.out.below.size
          have hz1 := blk_lt (HB.out.bk 0 rfl)
          have hz2 := blk_lt (HB.out.bk 1 rfl)
          have hz3 := blk_lt (HB.out.bk 2 rfl)
          have HZ := Aside0.mk (blk_new vv5 (.cells #[.int .i32 0, .int .i32 0] 51))
          replace HB := Aside0.mk (HB.out.alloc (.cells #[.int .i32 0, .int .i32 0] 51))
          generalize World.alloc vv5 _ = vv6 at HB HZ ⊢
          generalize vv5.heap.size = g8 at HZ hz0 hz1 hz2 hz3 ⊢
          refine hK.out _ _ ⟨HB.out.c0 0 rfl, HB.out.c1 0 rfl, HB.out.c0 1 rfl, HB.out.c1 1 rfl⟩ (fun hHeld => ?_)
          clear hK K
          refine norm_ (a' := ?_) ?_ ?_; rotate_left
          · show Act.put _ (some 8) _ = _; simp only [Act.put, zA, zB, zC, i64_w, i32_w]; rfl
          exact norm_ (by simp only [putAll, Act.put, zA, zB, zC]) (hCont g8 _ ⟨HB.out, HZ.out, by omega, by omega⟩)
        · skip
          refine value_ (w1 := ?_) (v := ?_) (by rfl) rfl ?_ ?_
          rotate_left 2
          · go_simp
            constructor
            · rfl
            · rfl
          have hz0 := HB.out.below.size
          have hz1 := blk_lt (HB.out.bk 0 rfl)
          have hz2 := blk_lt (HB.out.bk 1 rfl)
          have hz3 := blk_lt (HB.out.bk 2 rfl)
          have HZ := Aside0.mk (blk_new vv4 (.cells #[.int .i32 0, .int .i32 0] 51))
          replace HB := Aside0.mk (HB.out.alloc (.cells #[.int .i32 0, .int .i32 0] 51))
          generalize World.alloc vv4 _ = vv6 at HB HZ ⊢
          generalize vv4.heap.size = g8 at HZ hz0 hz1 hz2 hz3 ⊢
          refine hK.out _ _ ⟨HB.out.c0 0 rfl, HB.out.c1 0 rfl, HB.out.c0 1 rfl, HB.out.c1 1 rfl⟩ (fun hHeld => ?_)
          clear hK K
          refine norm_ (a' := ?_) ?_ ?_; rotate_left
          · show Act.put _ (some 8) _ = _; simp only [Act.put, zA, zB, zC, i64_w, i32_w]; rfl
          refine one_ (i := 5) (N := some 18) (bl 8 127) rfl rfl (by kernel_rfl) (by decide) (fun K hK => ?_)
          refine goes_ Try.func39 (by kernel_rfl) rfl #[.int .u8 op, .agg #[.int .i32 a1, .int .i32 b1], .agg #[.int .i32 a2, .int .i32 b2]] (by rfl) rfl rfl (by (try simp only [List.map_toArray, List.map_cons, List.map_nil]); first | done | rfl) ?_
          with_reducible refine (Ivl5.apply5_c _ _ _ _ _ _ _ i_a1.out i_b1.out i_a2.out i_b2.out hz.out _).mono ?_
          rintro e vv5 ⟨rfl, hb⟩; refine ⟨_, rfl, ?_⟩
          replace HB := Aside0.mk (HB.out.step hb)
          replace HZ := Aside0.mk (blk_below HZ.out hb); clear hb
          refine hK.out _ _ ⟨HB.out.c0 0 rfl, HB.out.c1 0 rfl, HB.out.c0 1 rfl, HB.out.c1 1 rfl⟩ (fun hHeld => ?_)
          clear hK K
          refine norm_ (a' := ?_) ?_ ?_; rotate_left
          · show Act.put _ (some 18) _ = _; simp only [Act.put, zA, zB, zC, i64_w, i32_w]; rfl
          exact norm_ (by simp only [putAll, Act.put, zA, zB, zC]) (hCont g8 _ ⟨HB.out, HZ.out, by omega, by omega⟩)
      · skip
        refine value_ (w1 := ?_) (v := ?_) (by rfl) rfl ?_ ?_
        rotate_left 2
        · go_simp
          constructor
          · rfl
          · rfl
        have hz0 := HB.out.below.size
        have hz1 := blk_lt (HB.out.bk 0 rfl)
        have hz2 := blk_lt (HB.out.bk 1 rfl)
        have hz3 := blk_lt (HB.out.bk 2 rfl)
        have HZ := Aside0.mk (blk_new vv2 (.cells #[.int .i32 0, .int .i32 0] 51))
        replace HB := Aside0.mk (HB.out.alloc (.cells #[.int .i32 0, .int .i32 0] 51))
        generalize World.alloc vv2 _ = vv6 at HB HZ ⊢
        generalize vv2.heap.size = g8 at HZ hz0 hz1 hz2 hz3 ⊢
        refine hK.out _ _ ⟨HB.out.c0 0 rfl, HB.out.c1 0 rfl, HB.out.c0 1 rfl, HB.out.c1 1 rfl⟩ (fun hHeld => ?_)
        clear hK K
        refine norm_ (a' := ?_) ?_ ?_; rotate_left
        · show Act.put _ (some 8) _ = _; simp only [Act.put, zA, zB, zC, i64_w, i32_w]; rfl
        refine one_ (i := 4) (N := some 17) (bl 8 95) rfl rfl (by kernel_rfl) (by decide) (fun K hK => ?_)
        refine goes_ Try.func40 (by kernel_rfl) rfl #[.agg #[.int .i32 a2, .int .i32 b2]] (by rfl) rfl rfl (by (try simp only [List.map_toArray, List.map_cons, List.map_nil]); first | done | rfl) ?_
        with_reducible refine (Ivl5.plain_c _ _ _).mono ?_
        rintro e vv4 ⟨rfl, hb⟩; refine ⟨_, rfl, ?_⟩
        replace HB := Aside0.mk (HB.out.step hb)
        replace HZ := Aside0.mk (blk_below HZ.out hb); clear hb
        refine hK.out _ _ ⟨HB.out.c0 0 rfl, HB.out.c1 0 rfl, HB.out.c0 1 rfl, HB.out.c1 1 rfl⟩ (fun hHeld => ?_)
        clear hK K
        refine norm_ (a' := ?_) ?_ ?_; rotate_left
        · show Act.put _ (some 17) _ = _; simp only [Act.put, zA, zB, zC, i64_w, i32_w]; rfl
        refine one_ (i := 5) (N := some 18) (bl 8 127) rfl rfl (by kernel_rfl) (by decide) (fun K hK => ?_)
        refine goes_ Try.func39 (by kernel_rfl) rfl #[.int .u8 op, .agg #[.int .i32 a1, .int .i32 b1], .agg #[.int .i32 a2, .int .i32 b2]] (by rfl) rfl rfl (by (try simp only [List.map_toArray, List.map_cons, List.map_nil]); first | done | rfl) ?_
        with_reducible refine (Ivl5.apply5_c _ _ _ _ _ _ _ i_a1.out i_b1.out i_a2.out i_b2.out hz.out _).mono ?_
        rintro e vv5 ⟨rfl, hb⟩; refine ⟨_, rfl, ?_⟩
        replace HB := Aside0.mk (HB.out.step hb)
        replace HZ := Aside0.mk (blk_below HZ.out hb); clear hb
        refine hK.out _ _ ⟨HB.out.c0 0 rfl, HB.out.c1 0 rfl, HB.out.c0 1 rfl, HB.out.c1 1 rfl⟩ (fun hHeld => ?_)
        clear hK K
        refine norm_ (a' := ?_) ?_ ?_; rotate_left
        · show Act.put _ (some 18) _ = _; simp only [Act.put, zA, zB, zC, i64_w, i32_w]; rfl
        exact norm_ (by simp only [putAll, Act.put, zA, zB, zC]) (hCont g8 _ ⟨HB.out, HZ.out, by omega, by omega⟩)
    · skip
      refine value_ (w1 := ?_) (v := ?_) (by rfl) rfl ?_ ?_
      rotate_left 2
      · go_simp
        constructor
        · rfl
        · rfl
      have hz0 := HB.out.below.size
      have hz1 := blk_lt (HB.out.bk 0 rfl)
      have hz2 := blk_lt (HB.out.bk 1 rfl)
      have hz3 := blk_lt (HB.out.bk 2 rfl)
      have HZ := Aside0.mk (blk_new w9 (.cells #[.int .i32 0, .int .i32 0] 51))
      replace HB := Aside0.mk (HB.out.alloc (.cells #[.int .i32 0, .int .i32 0] 51))
      generalize World.alloc w9 _ = vv6 at HB HZ ⊢
      generalize w9.heap.size = g8 at HZ hz0 hz1 hz2 hz3 ⊢
      refine hK.out _ _ ⟨HB.out.c0 0 rfl, HB.out.c1 0 rfl, HB.out.c0 1 rfl, HB.out.c1 1 rfl⟩ (fun hHeld => ?_)
      clear hK K
      refine norm_ (a' := ?_) ?_ ?_; rotate_left
      · show Act.put _ (some 8) _ = _; simp only [Act.put, zA, zB, zC, i64_w, i32_w]; rfl
      refine one_ (i := 2) (N := some 15) (bl 8 79) rfl rfl (by kernel_rfl) (by decide) (fun K hK => ?_)
      refine goes_ Try.func40 (by kernel_rfl) rfl #[.agg #[.int .i32 a1, .int .i32 b1]] (by rfl) rfl rfl (by (try simp only [List.map_toArray, List.map_cons, List.map_nil]); first | done | rfl) ?_
      with_reducible refine (Ivl5.plain_c _ _ _).mono ?_
      rintro e vv2 ⟨rfl, hb⟩; refine ⟨_, rfl, ?_⟩
      replace HB := Aside0.mk (HB.out.step hb)
      replace HZ := Aside0.mk (blk_below HZ.out hb); clear hb
      refine hK.out _ _ ⟨HB.out.c0 0 rfl, HB.out.c1 0 rfl, HB.out.c0 1 rfl, HB.out.c1 1 rfl⟩ (fun hHeld => ?_)
      clear hK K
      refine norm_ (a' := ?_) ?_ ?_; rotate_left
      · show Act.put _ (some 15) _ = _; simp only [Act.put, zA, zB, zC, i64_w, i32_w]; rfl
      refine one_ (i := 4) (N := some 17) (bl 8 95) rfl rfl (by kernel_rfl) (by decide) (fun K hK => ?_)
      refine goes_ Try.func40 (by kernel_rfl) rfl #[.agg #[.int .i32 a2, .int .i32 b2]] (by rfl) rfl rfl (by (try simp only [List.map_toArray, List.map_cons, List.map_nil]); first | done | rfl) ?_
      with_reducible refine (Ivl5.plain_c _ _ _).mono ?_
      rintro e vv4 ⟨rfl, hb⟩; refine ⟨_, rfl, ?_⟩
      replace HB := Aside0.mk (HB.out.step hb)
      replace HZ := Aside0.mk (blk_below HZ.out hb); clear hb
      refine hK.out _ _ ⟨HB.out.c0 0 rfl, HB.out.c1 0 rfl, HB.out.c0 1 rfl, HB.out.c1 1 rfl⟩ (fun hHeld => ?_)
      clear hK K
      refine norm_ (a' := ?_) ?_ ?_; rotate_left
      · show Act.put _ (some 17) _ = _; simp only [Act.put, zA, zB, zC, i64_w, i32_w]; rfl
      refine one_ (i := 5) (N := some 18) (bl 8 127) rfl rfl (by kernel_rfl) (by decide) (fun K hK => ?_)
      refine goes_ Try.func39 (by kernel_rfl) rfl #[.int .u8 op, .agg #[.int .i32 a1, .int .i32 b1], .agg #[.int .i32 a2, .int .i32 b2]] (by rfl) rfl rfl (by (try simp only [List.map_toArray, List.map_cons, List.map_nil]); first | done | rfl) ?_
      with_reducible refine (Ivl5.apply5_c _ _ _ _ _ _ _ i_a1.out i_b1.out i_a2.out i_b2.out hz.out _).mono ?_
      rintro e vv5 ⟨rfl, hb⟩; refine ⟨_, rfl, ?_⟩
      replace HB := Aside0.mk (HB.out.step hb)
      replace HZ := Aside0.mk (blk_below HZ.out hb); clear hb
      refine hK.out _ _ ⟨HB.out.c0 0 rfl, HB.out.c1 0 rfl, HB.out.c0 1 rfl, HB.out.c1 1 rfl⟩ (fun hHeld => ?_)
      clear hK K
      refine norm_ (a' := ?_) ?_ ?_; rotate_left
      · show Act.put _ (some 18) _ = _; simp only [Act.put, zA, zB, zC, i64_w, i32_w]; rfl
      exact norm_ (by simp only [putAll, Act.put, zA, zB, zC]) (hCont g8 _ ⟨HB.out, HZ.out, by omega, by omega⟩)
  clear HB
  rintro g8 wF ⟨HB1, HZ1, hg1, hg2⟩
  have HB := Aside0.mk HB1
  have HZ := Aside0.mk HZ1
  clear HB1 HZ1
  have hHeld : wF.cell? ⟨w.heap.size, 0, none⟩ = some (.int .i32 a1) ∧ wF.cell? ⟨w.heap.size, 1, none⟩ = some (.int .i32 b1) ∧ wF.cell? ⟨w.heap.size + 1, 0, none⟩ = some (.int .i32 a2) ∧ wF.cell? ⟨w.heap.size + 1, 1, none⟩ = some (.int .i32 b2) := ⟨HB.out.c0 0 rfl, HB.out.c1 0 rfl, HB.out.c0 1 rfl, HB.out.c1 1 rfl⟩
  refine norm_ (a' := ?_) ?_ ?_; rotate_left
  · simp only [putAll, Act.put, zA, zB, zC]
    rfl
  refine last_ (i := 7) (N := none) (bl 8 255) rfl rfl (by kernel_rfl) (by decide) (fun K hK => ?_)
  have z0 : wF.cell? ⟨g8, 0, none⟩ = some (.int .i32 0) := (blk_cell HZ.out 0).trans rfl
  have z1' : wF.cell? ⟨g8, 1, none⟩ = some (.int .i32 0) := (blk_cell HZ.out 1).trans rfl
  have f0 := blk_frozen HZ.out 0
  have f1 := blk_frozen HZ.out 1
  refine skip_ (w1 := ?_) (by rfl) rfl ?_ ?_
  rotate_left
  · go_simp
    rfl
  clear z0 z1' f0 f1
  refine hK.out _ _ ?_
  clear hK K
  refine done_ (by kernel_rfl) ?_
  replace HB := Aside0.mk (Bx.far HB.out (g8 := g8) (by intro n g a b hn; rcases n with _ | _ | _ | n <;> simp at hn <;> omega) (by omega) (.int .i32 z1) (.int .i32 z2))
  replace HZ := Aside0.mk (blk_put (cs := #[.int .i32 z1, .int .i32 0]) (cs' := #[.int .i32 z1, .int .i32 z2]) (blk_put (cs' := #[.int .i32 z1, .int .i32 0]) HZ.out 0 (.int .i32 z1) rfl) 1 (.int .i32 z2) rfl)
  generalize World.setCell (World.setCell wF _ _) _ _ = wG at HB HZ ⊢
  go_upto_region 3 with (fail)
  replace HB := Aside0.mk (HB.out.drew)
  replace HZ := Aside0.mk (blk_drew HZ.out)
  refine start_ (n := 8) (S := fun w' => w'.cell? ⟨g7, 0, none⟩ = some (.int .i32 z1) ∧ w'.cell? ⟨g7, 1, none⟩ = some (.int .i32 z2) ∧ w'.cell? ⟨g8, 0, none⟩ = some (.int .i32 z1) ∧ w'.cell? ⟨g8, 1, none⟩ = some (.int .i32 z2)) (ds := []) #[false, false, false, false, false, false, false, false] (by kernel_rfl) rfl rfl ⟨HB.out.c0 2 rfl, HB.out.c1 2 rfl, (blk_cell HZ.out 0).trans rfl, (blk_cell HZ.out 1).trans rfl⟩ (fun hHeld => ?_)
  generalize wG.drew = wg at HB HZ hHeld ⊢
  refine one_ (i := 0) (N := some 19) (bl 8 1) rfl rfl (by kernel_rfl) (by decide) (fun K hK => ?_)
  refine goes_ Try.func28 (by kernel_rfl) rfl #[] (by rfl) rfl rfl (by (try simp only [List.map_toArray, List.map_cons, List.map_nil]); first | done | rfl) ?_
  with_reducible refine (awake_c _).mono ?_
  rintro e wH ⟨rfl, hb⟩; refine ⟨_, rfl, ?_⟩
  replace HB := Aside0.mk (HB.out.step hb)
  replace HZ := Aside0.mk (blk_below HZ.out hb); clear hb
  refine hK.out _ _ ⟨HB.out.c0 2 rfl, HB.out.c1 2 rfl, (blk_cell HZ.out 0).trans rfl, (blk_cell HZ.out 1).trans rfl⟩ (fun hHeld => ?_)
  clear hK K
  refine norm_ (a' := ?_) ?_ ?_; rotate_left
  · show Act.put _ (some 19) _ = _; simp only [Act.put, zA, zB, zC, i64_w, i32_w]; rfl
  refine pure_ (i := 1) (N := some 20) (v := ?_) (a' := ?_) (bl 8 3) rfl rfl (by kernel_rfl) (fun _ _ _ h => h) (Or.inl ⟨by rfl, ?_⟩) ?_ ?_
  rotate_left
  · intro w'; go_simp; with_reducible rfl
  rotate_left
  · simp only [Act.put, zA, zB, zC, i64_w, i32_w]; rfl
  refine take_ (i := 2) (N := some 21) (v := ?_) (a' := ?_) (bl 8 7) rfl rfl (by kernel_rfl) (fun _ _ _ h => h) (Or.inl ⟨by rfl, ?_⟩) hHeld ?_ ?_
  rotate_left
  · rintro w' ⟨s0, s1, s2, s3⟩; go_simp; with_reducible rfl
  rotate_left
  · simp only [Act.put, zA, zB, zC, i64_w, i32_w]; rfl
  refine take_ (i := 4) (N := some 23) (v := ?_) (a' := ?_) (bl 8 23) rfl rfl (by kernel_rfl) (fun _ _ _ h => h) (Or.inl ⟨by rfl, ?_⟩) hHeld ?_ ?_
  rotate_left
  · rintro w' ⟨s0, s1, s2, s3⟩; go_simp; with_reducible rfl
  rotate_left
  · simp only [Act.put, zA, zB, zC, i64_w, i32_w]; rfl
  refine one_ (i := 3) (N := some 22) (bl 8 31) rfl rfl (by kernel_rfl) (by decide) (fun K hK => ?_)
  refine goes_ Try.func40 (by kernel_rfl) rfl #[.agg #[.int .i32 z1, .int .i32 z2]] (by rfl) rfl rfl (by (try simp only [List.map_toArray, List.map_cons, List.map_nil]); first | done | rfl) ?_
  with_reducible refine (Ivl5.plain_c _ _ _).mono ?_
  rintro e wI ⟨rfl, hb⟩; refine ⟨_, rfl, ?_⟩
  replace HB := Aside0.mk (HB.out.step hb)
  replace HZ := Aside0.mk (blk_below HZ.out hb); clear hb
  refine hK.out _ _ ⟨HB.out.c0 2 rfl, HB.out.c1 2 rfl, (blk_cell HZ.out 0).trans rfl, (blk_cell HZ.out 1).trans rfl⟩ (fun hHeld => ?_)
  clear hK K
  refine norm_ (a' := ?_) ?_ ?_; rotate_left
  · show Act.put _ (some 22) _ = _; simp only [Act.put, zA, zB, zC, i64_w, i32_w]; rfl
  refine pure_ (i := 5) (N := some 24) (v := ?_) (a' := ?_) (bl 8 63) rfl rfl (by kernel_rfl) (fun _ _ _ h => h) (Or.inl ⟨by rfl, ?_⟩) ?_ ?_
  rotate_left
  · intro w'; go_simp; with_reducible rfl
  rotate_left
  · simp only [Act.put, zA, zB, zC, i64_w, i32_w]; rfl
  refine pure_ (i := 6) (N := some 25) (v := ?_) (a' := ?_) (bl 8 127) rfl rfl (by kernel_rfl) (fun _ _ _ h => h) (Or.inl ⟨by rfl, ?_⟩) ?_ ?_
  rotate_left
  · intro w'; go_simp; with_reducible rfl
  rotate_left
  · simp only [Act.put, zA, zB, zC, i64_w, i32_w]; rfl
  refine pure_ (i := 7) (N := some 6) (v := ?_) (a' := ?_) (bl 8 255) rfl rfl (by kernel_rfl) (fun _ _ _ h => h) (Or.inl ⟨by rfl, ?_⟩) ?_ ?_
  rotate_left
  · intro w'; go_simp; with_reducible rfl
  rotate_left
  · simp only [Act.put, zA, zB, zC, i64_w, i32_w]; rfl
  refine done_ (by kernel_rfl) ?_
  go_wp2_with fail
  go_ret
  exact ⟨by first | rfl | (simp; done) | (simp [*]; done), HB.out.below⟩

theorem walk (op a1 b1 a2 b2 : Int) (w : World) (_ : (Lit.int .u8 op).wf = true) (wa : (Lit.int .i32 a1).wf = true) (wb : (Lit.int .i32 b1).wf = true) (wc : (Lit.int .i32 a2).wf = true) (wd : (Lit.int .i32 b2).wf = true) : Calls Try.prog 13 #[.int .u8 op, .agg #[.int .i32 a1, .int .i32 b1], .agg #[.int .i32 a2, .int .i32 b2]] w fun e w' => e = .returned (.bool true) ∧ Below w.heap.size w w' := by
  exact main op a1 b1 a2 b2 _ _ ⟨i32_wf wa⟩ ⟨i32_wf wb⟩ ⟨i32_wf wc⟩ ⟨i32_wf wd⟩ ⟨rfl⟩ w

end Go.Proofs.Ytoalomjmmlnclaa.Apply27
