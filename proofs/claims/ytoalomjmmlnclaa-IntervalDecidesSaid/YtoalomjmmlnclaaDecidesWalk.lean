/- The walk of 'IntervalDecides': for every two intervals the call answers true. -/
import Derived.Test.YtoalomjmmlnclaaIvlF
import Derived.Test.YtoalomjmmlnclaaPIntervalApplyx1
namespace Go.Proofs.Ytoalomjmmlnclaa.Decides
open Go.RowKit Go.Proofs.Ytoalomjmmlnclaa.PIntervalApply Go.Proofs.YtoalomjmmlnclaaW.PrintWords Go.Proofs.YtoalomjmmlnclaaW.PrintLast Go.Proofs.YtoalomjmmlnclaaW.PrintMore
open Go.Proofs.Ytoalomjmmlnclaa.M Go.Proofs.Ytoalomjmmlnclaa.Ivl
open List renaming setIfInBounds_toArray → zA, set_cons_zero → zB, set_cons_succ → zC
attribute [local go_sem] max2_int min2_int max_two min_two max_three min_three max_four min_four
attribute [local go_sem high] eqA38
set_option linter.unusedVariables false
set_option linter.unusedSimpArgs false


theorem Bx.swap {w W : World} {L : List (Nat × Int × Int)} (x y : Nat × Int × Int) (h : Bx w (L ++ [x, y]) W) : Bx w (L ++ [y, x]) W := by
  refine ⟨fun n g a b hn => ?_, h.below⟩
  have hm := List.mem_of_getElem? hn
  have hm' : (g, a, b) ∈ L ++ [x, y] := by
    simp only [List.mem_append, List.mem_cons, List.not_mem_nil, or_false] at hm ⊢
    rcases hm with h1 | h1 | h1
    · exact .inl h1
    · exact .inr (.inr h1)
    · exact .inr (.inl h1)
  obtain ⟨m, hm2⟩ := List.getElem?_of_mem hm'
  exact h.blk m g a b hm2

set_option maxHeartbeats 2000000 in
set_option maxRecDepth 100000 in
theorem flip_00 (w : World) : Calls Try.prog 43 #[.agg #[.int .i32 0, .int .i32 0]] w fun e w' => e = .returned (.agg #[.int .i32 1, .int .i32 1]) ∧ Below w.heap.size w w' := by
  have hu38 := Try.underlying38
  have HB := Aside0.mk (Below.refl w.heap.size w)
  go_enter Try.func43, Try.ntmps43
  go_wp2
  refine bodyPost_ret (v := .agg #[.int .i32 1, .int .i32 1]) (by simp [results, Try.results43, go_sem]) rfl ⟨rfl, ?_⟩
  repeat (first | exact HB.out | apply below_alloc)
set_option maxHeartbeats 2000000 in
set_option maxRecDepth 100000 in
theorem flip_01 (w : World) : Calls Try.prog 43 #[.agg #[.int .i32 0, .int .i32 1]] w fun e w' => e = .returned (.agg #[.int .i32 0, .int .i32 1]) ∧ Below w.heap.size w w' := by
  have hu38 := Try.underlying38
  have HB := Aside0.mk (Below.refl w.heap.size w)
  go_enter Try.func43, Try.ntmps43
  go_wp2
  refine bodyPost_ret (v := .agg #[.int .i32 0, .int .i32 1]) (by simp [results, Try.results43, go_sem]) rfl ⟨rfl, ?_⟩
  repeat (first | exact HB.out | apply below_alloc)
set_option maxHeartbeats 2000000 in
set_option maxRecDepth 100000 in
theorem flip_10 (w : World) : Calls Try.prog 43 #[.agg #[.int .i32 1, .int .i32 0]] w fun e w' => e = .returned (.agg #[.int .i32 1, .int .i32 0]) ∧ Below w.heap.size w w' := by
  have hu38 := Try.underlying38
  have HB := Aside0.mk (Below.refl w.heap.size w)
  go_enter Try.func43, Try.ntmps43
  go_wp2
  refine bodyPost_ret (v := .agg #[.int .i32 1, .int .i32 0]) (by simp [results, Try.results43, go_sem]) rfl ⟨rfl, ?_⟩
  repeat (first | exact HB.out | apply below_alloc)
set_option maxHeartbeats 2000000 in
set_option maxRecDepth 100000 in
theorem flip_11 (w : World) : Calls Try.prog 43 #[.agg #[.int .i32 1, .int .i32 1]] w fun e w' => e = .returned (.agg #[.int .i32 0, .int .i32 0]) ∧ Below w.heap.size w w' := by
  have hu38 := Try.underlying38
  have HB := Aside0.mk (Below.refl w.heap.size w)
  go_enter Try.func43, Try.ntmps43
  go_wp2
  refine bodyPost_ret (v := .agg #[.int .i32 0, .int .i32 0]) (by simp [results, Try.results43, go_sem]) rfl ⟨rfl, ?_⟩
  repeat (first | exact HB.out | apply below_alloc)
def Flip (a b c d : Int) : Prop := (a = 0 ∨ a = 1) ∧ (b = 0 ∨ b = 1) ∧ c = 1 - b ∧ d = 1 - a
theorem flip_c (a b r s : Int) (h : Flip a b r s) (w : World) : Calls Try.prog 43 #[.agg #[.int .i32 a, .int .i32 b]] w fun e w' => e = .returned (.agg #[.int .i32 r, .int .i32 s]) ∧ Below w.heap.size w w' := by
  obtain ⟨rfl | rfl, rfl | rfl, rfl, rfl⟩ := h
  · exact flip_00 w
  · exact flip_01 w
  · exact flip_10 w
  · exact flip_11 w

set_option maxHeartbeats 4000000 in
set_option maxRecDepth 100000 in
theorem empty0 (a1 b1 a2 b2 : Int) (hl : decide (b1 < a1) = true) (w : World) : Calls Try.prog 16 #[.agg #[.int .i32 a1, .int .i32 b1], .agg #[.int .i32 a2, .int .i32 b2]] w fun e w' => e = .returned (.bool true) ∧ Below w.heap.size w w' := by
  have hu38 := Try.underlying38
  go_enter Try.func16, Try.ntmps16
  go_upto_region 1 with (fail)
  have HB := Aside0.mk (Bx.start2 w a1 b1 a2 b2)
  generalize World.alloc (World.alloc w _) _ = w0 at HB ⊢
  have C := HB.out.cl
  simp only [Cl, and_true] at C
  obtain ⟨_, _, _, _, _, _, _, _⟩ := C
  go_wp2_with fail
  (with_reducible refine (awake_c _).mono ?_); rintro e wv1 ⟨rfl, hb⟩
  replace HB := Aside0.mk (HB.out.step hb)
  clear hb
  have C := HB.out.cl
  simp only [Cl, and_true] at C
  obtain ⟨_, _, _, _, _, _, _, _⟩ := C
  go_wp2_with fail
  (with_reducible refine (awake_c _).mono ?_); rintro e wv2 ⟨rfl, hb⟩
  replace HB := Aside0.mk (HB.out.step hb)
  clear hb
  have C := HB.out.cl
  simp only [Cl, and_true] at C
  obtain ⟨_, _, _, _, _, _, _, _⟩ := C
  go_wp2_with fail
  go_ret
  exact ⟨by first | rfl | (simp; done) | (simp [*]; done), HB.out.below⟩

set_option maxHeartbeats 4000000 in
set_option maxRecDepth 100000 in
theorem empty1 (a1 b1 a2 b2 : Int) (hl : decide (b1 < a1) = false) (hl2 : decide (b2 < a2) = true) (w : World) : Calls Try.prog 16 #[.agg #[.int .i32 a1, .int .i32 b1], .agg #[.int .i32 a2, .int .i32 b2]] w fun e w' => e = .returned (.bool true) ∧ Below w.heap.size w w' := by
  have hu38 := Try.underlying38
  go_enter Try.func16, Try.ntmps16
  go_upto_region 1 with (fail)
  have HB := Aside0.mk (Bx.start2 w a1 b1 a2 b2)
  generalize World.alloc (World.alloc w _) _ = w0 at HB ⊢
  have C := HB.out.cl
  simp only [Cl, and_true] at C
  obtain ⟨_, _, _, _, _, _, _, _⟩ := C
  go_wp2_with fail
  (with_reducible refine (awake_c _).mono ?_); rintro e wv1 ⟨rfl, hb⟩
  replace HB := Aside0.mk (HB.out.step hb)
  clear hb
  have C := HB.out.cl
  simp only [Cl, and_true] at C
  obtain ⟨_, _, _, _, _, _, _, _⟩ := C
  go_wp2_with fail
  (with_reducible refine (awake_c _).mono ?_); rintro e wv2 ⟨rfl, hb⟩
  replace HB := Aside0.mk (HB.out.step hb)
  clear hb
  have C := HB.out.cl
  simp only [Cl, and_true] at C
  obtain ⟨_, _, _, _, _, _, _, _⟩ := C
  go_wp2_with fail
  go_ret
  exact ⟨by first | rfl | (simp; done) | (simp [*]; done), HB.out.below⟩

set_option maxHeartbeats 4000000 in
set_option maxRecDepth 100000 in
theorem main (a1 b1 a2 b2 l1 l2 g1 g2 m1 m2 n1 n2 e1 e2 f1 f2 : Int) (t1 t2 t3 t4 : Bool) (i_a1 : Aside0 (I32 a1)) (i_b1 : Aside0 (I32 b1)) (i_a2 : Aside0 (I32 a2)) (i_b2 : Aside0 (I32 b2)) (h18 : Aside0 (iv 18 a1 b1 a2 b2 = (l1, l2))) (h21 : Aside0 (iv 21 a1 b1 a2 b2 = (g1, g2))) (h19 : Aside0 (iv 19 a1 b1 a2 b2 = (m1, m2))) (h20 : Aside0 (iv 20 a1 b1 a2 b2 = (n1, n2))) (h16 : Aside0 (iv 16 a1 b1 a2 b2 = (e1, e2))) (h17 : Aside0 (iv 17 a1 b1 a2 b2 = (f1, f2)))
    (k1 : Aside0 (hasv l1 l2 1 = t1)) (k2 : Aside0 (hasv l1 l2 0 = t2)) (k3 : Aside0 (hasv m1 m2 1 = t3)) (k4 : Aside0 (hasv m1 m2 0 = t4)) (k5 : Aside0 (hasv e1 e2 1 = (t3 && t2))) (q1 : Aside0 (Flip l1 l2 g1 g2)) (q2 : Aside0 (Flip m1 m2 n1 n2)) (q3 : Aside0 (Flip e1 e2 f1 f2))
    (hl : decide (b1 < a1) = false) (hl2 : decide (b2 < a2) = false) (d1 : decide (a1 < b2) = t1) (d2 : decide (a2 ≤ b1) = t2) (d3 : decide (a1 ≤ b2) = t3) (d4 : decide (a2 < b1) = t4) (w : World) : Calls Try.prog 16 #[.agg #[.int .i32 a1, .int .i32 b1], .agg #[.int .i32 a2, .int .i32 b2]] w fun e w' => e = .returned (.bool true) ∧ Below w.heap.size w w' := by
  have hu38 := Try.underlying38
  go_enter Try.func16, Try.ntmps16
  go_upto_region 1 with (fail)
  have HB := Aside0.mk (Bx.start2 w a1 b1 a2 b2)
  generalize World.alloc (World.alloc w _) _ = w0 at HB ⊢
  have C := HB.out.cl
  simp only [Cl, and_true] at C
  obtain ⟨_, _, _, _, _, _, _, _⟩ := C
  go_wp2_with fail
  (with_reducible refine (awake_c _).mono ?_); rintro e wv1 ⟨rfl, hb⟩
  replace HB := Aside0.mk (HB.out.step hb)
  clear hb
  have C := HB.out.cl
  simp only [Cl, and_true] at C
  obtain ⟨_, _, _, _, _, _, _, _⟩ := C
  go_upto_region 3 with (fail)
  replace HB := Aside0.mk (HB.out.drew)
  refine start_ (n := 10) (S := fun w' => w'.cell? ⟨w.heap.size, 0, none⟩ = some (.int .i32 a1) ∧ w'.cell? ⟨w.heap.size, 1, none⟩ = some (.int .i32 b1) ∧ w'.cell? ⟨w.heap.size + 1, 0, none⟩ = some (.int .i32 a2) ∧ w'.cell? ⟨w.heap.size + 1, 1, none⟩ = some (.int .i32 b2)) (ds := []) #[false, false, false, false, false, false, false, false, false, false] (by as_aux_lemma => kernel_rfl) rfl rfl ⟨HB.out.c0 0 rfl, HB.out.c1 0 rfl, HB.out.c0 1 rfl, HB.out.c1 1 rfl⟩ (fun hHeld => ?_)
  generalize wv1.drew = wv4 at HB hHeld ⊢
  refine take_ (i := 0) (N := some 29) (v := ?_) (a' := ?_) (bl 10 1) rfl rfl (by as_aux_lemma => kernel_rfl) (fun _ _ _ h => h) (Or.inl ⟨by rfl, ?_⟩) hHeld ?_ ?_
  rotate_left
  · rintro w' ⟨s0, s1, s2, s3⟩; go_simp; with_reducible rfl
  rotate_left
  · simp only [Act.put, zA, zB, zC, i64_w, i32_w]; rfl
  refine take_ (i := 1) (N := some 30) (v := ?_) (a' := ?_) (bl 10 3) rfl rfl (by as_aux_lemma => kernel_rfl) (fun _ _ _ h => h) (Or.inl ⟨by rfl, ?_⟩) hHeld ?_ ?_
  rotate_left
  · rintro w' ⟨s0, s1, s2, s3⟩; go_simp; with_reducible rfl
  rotate_left
  · simp only [Act.put, zA, zB, zC, i64_w, i32_w]; rfl
  refine take_ (i := 3) (N := some 32) (v := ?_) (a' := ?_) (bl 10 11) rfl rfl (by as_aux_lemma => kernel_rfl) (fun _ _ _ h => h) (Or.inl ⟨by rfl, ?_⟩) hHeld ?_ ?_
  rotate_left
  · rintro w' ⟨s0, s1, s2, s3⟩; go_simp; with_reducible rfl
  rotate_left
  · simp only [Act.put, zA, zB, zC, i64_w, i32_w]; rfl
  refine take_ (i := 4) (N := some 33) (v := ?_) (a' := ?_) (bl 10 27) rfl rfl (by as_aux_lemma => kernel_rfl) (fun _ _ _ h => h) (Or.inl ⟨by rfl, ?_⟩) hHeld ?_ ?_
  rotate_left
  · rintro w' ⟨s0, s1, s2, s3⟩; go_simp; with_reducible rfl
  rotate_left
  · simp only [Act.put, zA, zB, zC, i64_w, i32_w]; rfl
  refine join_ (σ := Nat × Nat) 2 (bl 10 255) (fun sg => [(31, .agg #[.int .i32 l1, .int .i32 l2]), (34, .agg #[.int .i32 g1, .int .i32 g2]), (5, .pointer (some ⟨sg.1, 0, none⟩)), (6, .pointer (some ⟨sg.2, 0, none⟩))]) (fun sg w' => Bx w [(w.heap.size, a1, b1), (w.heap.size + 1, a2, b2), (sg.1, 0, 0), (sg.2, 0, 0)] w' ∧ w.heap.size + 1 < sg.1 ∧ w.heap.size + 1 < sg.2 ∧ sg.1 ≠ sg.2) ?_ ?_
  rotate_left
  · intro hCont
    as_aux_lemma =>
    refine three_ (i := 2) (j := 6) (k := 7) (Ni := some 31) (Nj := some 5) (Nk := some 6) (bl 10 31) (bl 10 91) (bl 10 155) rfl rfl rfl rfl rfl rfl (by as_aux_lemma => kernel_rfl) (by decide) (by decide) (by decide) (fun K hK => ?_) (fun K hK => ?_) (fun K hK => ?_)
    · skip
      refine goes_ Try.func38 (by as_aux_lemma => kernel_rfl) rfl #[.int .u8 18, .agg #[.int .i32 a1, .int .i32 b1], .agg #[.int .i32 a2, .int .i32 b2]] (by rfl) rfl rfl (by (try simp only [List.map_toArray, List.map_cons, List.map_nil]); first | done | rfl) ?_
      with_reducible refine (apply_c _ _ _ _ _ _ _ i_a1.out i_b1.out i_a2.out i_b2.out h18.out _).mono ?_
      rintro e vv2 ⟨rfl, hb⟩; refine ⟨_, rfl, ?_⟩
      replace HB := Aside0.mk (HB.out.step hb); clear hb
      refine hK.out _ _ ⟨HB.out.c0 0 rfl, HB.out.c1 0 rfl, HB.out.c0 1 rfl, HB.out.c1 1 rfl⟩ (fun hHeld => ?_)
      clear hK K
      refine norm_ (a' := ?_) ?_ ?_; rotate_left
      · show Act.put _ (some 31) _ = _; simp only [Act.put, zA, zB, zC, i64_w, i32_w]; rfl
      refine three_ (i := 5) (j := 6) (k := 7) (Ni := some 34) (Nj := some 5) (Nk := some 6) (bl 10 63) (bl 10 95) (bl 10 159) rfl rfl rfl rfl rfl rfl (by as_aux_lemma => kernel_rfl) (by decide) (by decide) (by decide) (fun K hK => ?_) (fun K hK => ?_) (fun K hK => ?_)
      · skip
        refine goes_ Try.func38 (by as_aux_lemma => kernel_rfl) rfl #[.int .u8 21, .agg #[.int .i32 a1, .int .i32 b1], .agg #[.int .i32 a2, .int .i32 b2]] (by rfl) rfl rfl (by (try simp only [List.map_toArray, List.map_cons, List.map_nil]); first | done | rfl) ?_
        with_reducible refine (apply_c _ _ _ _ _ _ _ i_a1.out i_b1.out i_a2.out i_b2.out h21.out _).mono ?_
        rintro e vv5 ⟨rfl, hb⟩; refine ⟨_, rfl, ?_⟩
        replace HB := Aside0.mk (HB.out.step hb); clear hb
        refine hK.out _ _ ⟨HB.out.c0 0 rfl, HB.out.c1 0 rfl, HB.out.c0 1 rfl, HB.out.c1 1 rfl⟩ (fun hHeld => ?_)
        clear hK K
        refine norm_ (a' := ?_) ?_ ?_; rotate_left
        · show Act.put _ (some 34) _ = _; simp only [Act.put, zA, zB, zC, i64_w, i32_w]; rfl
        refine two_ (i := 6) (j := 7) (Ni := some 5) (Nj := some 6) (bl 10 127) (bl 10 191) rfl rfl rfl rfl (by as_aux_lemma => kernel_rfl) (by decide) (by decide) (fun K hK => ?_) (fun K hK => ?_)
        · skip
          refine value_ (w1 := ?_) (v := ?_) (by rfl) rfl ?_ ?_
          rotate_left 2
          · go_simp
            constructor
            · rfl
            · rfl
          have hltg5_1 := blk_lt (HB.out.bk 1 rfl)
          replace HB := Aside0.mk (show Bx w [(w.heap.size, a1, b1), (w.heap.size + 1, a2, b2), (vv5.heap.size, 0, 0)] _ from HB.out.box rfl 0 0)
          generalize World.alloc vv5 _ = vv6 at HB ⊢
          generalize vv5.heap.size = g5 at HB hltg5_1 ⊢
          refine hK.out _ _ ⟨HB.out.c0 0 rfl, HB.out.c1 0 rfl, HB.out.c0 1 rfl, HB.out.c1 1 rfl⟩ (fun hHeld => ?_)
          clear hK K
          refine norm_ (a' := ?_) ?_ ?_; rotate_left
          · show Act.put _ (some 5) _ = _; simp only [Act.put, zA, zB, zC, i64_w, i32_w]; rfl
          refine one_ (i := 7) (N := some 6) (bl 10 255) rfl rfl (by as_aux_lemma => kernel_rfl) (by decide) (fun K hK => ?_)
          refine value_ (w1 := ?_) (v := ?_) (by rfl) rfl ?_ ?_
          rotate_left 2
          · go_simp
            constructor
            · rfl
            · rfl
          have hltg6_1 := blk_lt (HB.out.bk 1 rfl)
          have hltg6_2 := blk_lt (HB.out.bk 2 rfl)
          replace HB := Aside0.mk (show Bx w [(w.heap.size, a1, b1), (w.heap.size + 1, a2, b2), (g5, 0, 0), (vv6.heap.size, 0, 0)] _ from HB.out.box rfl 0 0)
          generalize World.alloc vv6 _ = vv7 at HB ⊢
          generalize vv6.heap.size = g6 at HB hltg6_1 hltg6_2 ⊢
          refine hK.out _ _ ⟨HB.out.c0 0 rfl, HB.out.c1 0 rfl, HB.out.c0 1 rfl, HB.out.c1 1 rfl⟩ (fun hHeld => ?_)
          clear hK K
          refine norm_ (a' := ?_) ?_ ?_; rotate_left
          · show Act.put _ (some 6) _ = _; simp only [Act.put, zA, zB, zC, i64_w, i32_w]; rfl
          exact norm_ (by simp only [putAll, Act.put, zA, zB, zC]) (hCont (g5, g6) _ ⟨HB.out, by omega, by omega, by omega⟩)
        · skip
          refine value_ (w1 := ?_) (v := ?_) (by rfl) rfl ?_ ?_
          rotate_left 2
          · go_simp
            constructor
            · rfl
            · rfl
          have hltg6_1 := blk_lt (HB.out.bk 1 rfl)
          replace HB := Aside0.mk (show Bx w [(w.heap.size, a1, b1), (w.heap.size + 1, a2, b2), (vv5.heap.size, 0, 0)] _ from HB.out.box rfl 0 0)
          generalize World.alloc vv5 _ = vv7 at HB ⊢
          generalize vv5.heap.size = g6 at HB hltg6_1 ⊢
          refine hK.out _ _ ⟨HB.out.c0 0 rfl, HB.out.c1 0 rfl, HB.out.c0 1 rfl, HB.out.c1 1 rfl⟩ (fun hHeld => ?_)
          clear hK K
          refine norm_ (a' := ?_) ?_ ?_; rotate_left
          · show Act.put _ (some 6) _ = _; simp only [Act.put, zA, zB, zC, i64_w, i32_w]; rfl
          refine one_ (i := 6) (N := some 5) (bl 10 255) rfl rfl (by as_aux_lemma => kernel_rfl) (by decide) (fun K hK => ?_)
          refine value_ (w1 := ?_) (v := ?_) (by rfl) rfl ?_ ?_
          rotate_left 2
          · go_simp
            constructor
            · rfl
            · rfl
          have hltg5_1 := blk_lt (HB.out.bk 1 rfl)
          have hltg5_2 := blk_lt (HB.out.bk 2 rfl)
          replace HB := Aside0.mk (show Bx w [(w.heap.size, a1, b1), (w.heap.size + 1, a2, b2), (g6, 0, 0), (vv7.heap.size, 0, 0)] _ from HB.out.box rfl 0 0)
          generalize World.alloc vv7 _ = vv6 at HB ⊢
          generalize vv7.heap.size = g5 at HB hltg5_1 hltg5_2 ⊢
          refine hK.out _ _ ⟨HB.out.c0 0 rfl, HB.out.c1 0 rfl, HB.out.c0 1 rfl, HB.out.c1 1 rfl⟩ (fun hHeld => ?_)
          clear hK K
          refine norm_ (a' := ?_) ?_ ?_; rotate_left
          · show Act.put _ (some 5) _ = _; simp only [Act.put, zA, zB, zC, i64_w, i32_w]; rfl
          exact norm_ (by simp only [putAll, Act.put, zA, zB, zC]) (hCont (g5, g6) _ ⟨Bx.swap (L := [(w.heap.size, a1, b1), (w.heap.size + 1, a2, b2)]) (g6, 0, 0) (g5, 0, 0) HB.out, by omega, by omega, by omega⟩)
      · skip
        refine value_ (w1 := ?_) (v := ?_) (by rfl) rfl ?_ ?_
        rotate_left 2
        · go_simp
          constructor
          · rfl
          · rfl
        have hltg5_1 := blk_lt (HB.out.bk 1 rfl)
        replace HB := Aside0.mk (show Bx w [(w.heap.size, a1, b1), (w.heap.size + 1, a2, b2), (vv2.heap.size, 0, 0)] _ from HB.out.box rfl 0 0)
        generalize World.alloc vv2 _ = vv6 at HB ⊢
        generalize vv2.heap.size = g5 at HB hltg5_1 ⊢
        refine hK.out _ _ ⟨HB.out.c0 0 rfl, HB.out.c1 0 rfl, HB.out.c0 1 rfl, HB.out.c1 1 rfl⟩ (fun hHeld => ?_)
        clear hK K
        refine norm_ (a' := ?_) ?_ ?_; rotate_left
        · show Act.put _ (some 5) _ = _; simp only [Act.put, zA, zB, zC, i64_w, i32_w]; rfl
        refine two_ (i := 5) (j := 7) (Ni := some 34) (Nj := some 6) (bl 10 127) (bl 10 223) rfl rfl rfl rfl (by as_aux_lemma => kernel_rfl) (by decide) (by decide) (fun K hK => ?_) (fun K hK => ?_)
        · skip
          refine goes_ Try.func38 (by as_aux_lemma => kernel_rfl) rfl #[.int .u8 21, .agg #[.int .i32 a1, .int .i32 b1], .agg #[.int .i32 a2, .int .i32 b2]] (by rfl) rfl rfl (by (try simp only [List.map_toArray, List.map_cons, List.map_nil]); first | done | rfl) ?_
          with_reducible refine (apply_c _ _ _ _ _ _ _ i_a1.out i_b1.out i_a2.out i_b2.out h21.out _).mono ?_
          rintro e vv5 ⟨rfl, hb⟩; refine ⟨_, rfl, ?_⟩
          replace HB := Aside0.mk (HB.out.step hb); clear hb
          refine hK.out _ _ ⟨HB.out.c0 0 rfl, HB.out.c1 0 rfl, HB.out.c0 1 rfl, HB.out.c1 1 rfl⟩ (fun hHeld => ?_)
          clear hK K
          refine norm_ (a' := ?_) ?_ ?_; rotate_left
          · show Act.put _ (some 34) _ = _; simp only [Act.put, zA, zB, zC, i64_w, i32_w]; rfl
          refine one_ (i := 7) (N := some 6) (bl 10 255) rfl rfl (by as_aux_lemma => kernel_rfl) (by decide) (fun K hK => ?_)
          refine value_ (w1 := ?_) (v := ?_) (by rfl) rfl ?_ ?_
          rotate_left 2
          · go_simp
            constructor
            · rfl
            · rfl
          have hltg6_1 := blk_lt (HB.out.bk 1 rfl)
          have hltg6_2 := blk_lt (HB.out.bk 2 rfl)
          replace HB := Aside0.mk (show Bx w [(w.heap.size, a1, b1), (w.heap.size + 1, a2, b2), (g5, 0, 0), (vv5.heap.size, 0, 0)] _ from HB.out.box rfl 0 0)
          generalize World.alloc vv5 _ = vv7 at HB ⊢
          generalize vv5.heap.size = g6 at HB hltg6_1 hltg6_2 ⊢
          refine hK.out _ _ ⟨HB.out.c0 0 rfl, HB.out.c1 0 rfl, HB.out.c0 1 rfl, HB.out.c1 1 rfl⟩ (fun hHeld => ?_)
          clear hK K
          refine norm_ (a' := ?_) ?_ ?_; rotate_left
          · show Act.put _ (some 6) _ = _; simp only [Act.put, zA, zB, zC, i64_w, i32_w]; rfl
          exact norm_ (by simp only [putAll, Act.put, zA, zB, zC]) (hCont (g5, g6) _ ⟨HB.out, by omega, by omega, by omega⟩)
        · skip
          refine value_ (w1 := ?_) (v := ?_) (by rfl) rfl ?_ ?_
          rotate_left 2
          · go_simp
            constructor
            · rfl
            · rfl
          have hltg6_1 := blk_lt (HB.out.bk 1 rfl)
          have hltg6_2 := blk_lt (HB.out.bk 2 rfl)
          replace HB := Aside0.mk (show Bx w [(w.heap.size, a1, b1), (w.heap.size + 1, a2, b2), (g5, 0, 0), (vv6.heap.size, 0, 0)] _ from HB.out.box rfl 0 0)
          generalize World.alloc vv6 _ = vv7 at HB ⊢
          generalize vv6.heap.size = g6 at HB hltg6_1 hltg6_2 ⊢
          refine hK.out _ _ ⟨HB.out.c0 0 rfl, HB.out.c1 0 rfl, HB.out.c0 1 rfl, HB.out.c1 1 rfl⟩ (fun hHeld => ?_)
          clear hK K
          refine norm_ (a' := ?_) ?_ ?_; rotate_left
          · show Act.put _ (some 6) _ = _; simp only [Act.put, zA, zB, zC, i64_w, i32_w]; rfl
          refine one_ (i := 5) (N := some 34) (bl 10 255) rfl rfl (by as_aux_lemma => kernel_rfl) (by decide) (fun K hK => ?_)
          refine goes_ Try.func38 (by as_aux_lemma => kernel_rfl) rfl #[.int .u8 21, .agg #[.int .i32 a1, .int .i32 b1], .agg #[.int .i32 a2, .int .i32 b2]] (by rfl) rfl rfl (by (try simp only [List.map_toArray, List.map_cons, List.map_nil]); first | done | rfl) ?_
          with_reducible refine (apply_c _ _ _ _ _ _ _ i_a1.out i_b1.out i_a2.out i_b2.out h21.out _).mono ?_
          rintro e vv5 ⟨rfl, hb⟩; refine ⟨_, rfl, ?_⟩
          replace HB := Aside0.mk (HB.out.step hb); clear hb
          refine hK.out _ _ ⟨HB.out.c0 0 rfl, HB.out.c1 0 rfl, HB.out.c0 1 rfl, HB.out.c1 1 rfl⟩ (fun hHeld => ?_)
          clear hK K
          refine norm_ (a' := ?_) ?_ ?_; rotate_left
          · show Act.put _ (some 34) _ = _; simp only [Act.put, zA, zB, zC, i64_w, i32_w]; rfl
          exact norm_ (by simp only [putAll, Act.put, zA, zB, zC]) (hCont (g5, g6) _ ⟨HB.out, by omega, by omega, by omega⟩)
      · skip
        refine value_ (w1 := ?_) (v := ?_) (by rfl) rfl ?_ ?_
        rotate_left 2
        · go_simp
          constructor
          · rfl
          · rfl
        have hltg6_1 := blk_lt (HB.out.bk 1 rfl)
        replace HB := Aside0.mk (show Bx w [(w.heap.size, a1, b1), (w.heap.size + 1, a2, b2), (vv2.heap.size, 0, 0)] _ from HB.out.box rfl 0 0)
        generalize World.alloc vv2 _ = vv7 at HB ⊢
        generalize vv2.heap.size = g6 at HB hltg6_1 ⊢
        refine hK.out _ _ ⟨HB.out.c0 0 rfl, HB.out.c1 0 rfl, HB.out.c0 1 rfl, HB.out.c1 1 rfl⟩ (fun hHeld => ?_)
        clear hK K
        refine norm_ (a' := ?_) ?_ ?_; rotate_left
        · show Act.put _ (some 6) _ = _; simp only [Act.put, zA, zB, zC, i64_w, i32_w]; rfl
        refine two_ (i := 5) (j := 6) (Ni := some 34) (Nj := some 5) (bl 10 191) (bl 10 223) rfl rfl rfl rfl (by as_aux_lemma => kernel_rfl) (by decide) (by decide) (fun K hK => ?_) (fun K hK => ?_)
        · skip
          refine goes_ Try.func38 (by as_aux_lemma => kernel_rfl) rfl #[.int .u8 21, .agg #[.int .i32 a1, .int .i32 b1], .agg #[.int .i32 a2, .int .i32 b2]] (by rfl) rfl rfl (by (try simp only [List.map_toArray, List.map_cons, List.map_nil]); first | done | rfl) ?_
          with_reducible refine (apply_c _ _ _ _ _ _ _ i_a1.out i_b1.out i_a2.out i_b2.out h21.out _).mono ?_
          rintro e vv5 ⟨rfl, hb⟩; refine ⟨_, rfl, ?_⟩
          replace HB := Aside0.mk (HB.out.step hb); clear hb
          refine hK.out _ _ ⟨HB.out.c0 0 rfl, HB.out.c1 0 rfl, HB.out.c0 1 rfl, HB.out.c1 1 rfl⟩ (fun hHeld => ?_)
          clear hK K
          refine norm_ (a' := ?_) ?_ ?_; rotate_left
          · show Act.put _ (some 34) _ = _; simp only [Act.put, zA, zB, zC, i64_w, i32_w]; rfl
          refine one_ (i := 6) (N := some 5) (bl 10 255) rfl rfl (by as_aux_lemma => kernel_rfl) (by decide) (fun K hK => ?_)
          refine value_ (w1 := ?_) (v := ?_) (by rfl) rfl ?_ ?_
          rotate_left 2
          · go_simp
            constructor
            · rfl
            · rfl
          have hltg5_1 := blk_lt (HB.out.bk 1 rfl)
          have hltg5_2 := blk_lt (HB.out.bk 2 rfl)
          replace HB := Aside0.mk (show Bx w [(w.heap.size, a1, b1), (w.heap.size + 1, a2, b2), (g6, 0, 0), (vv5.heap.size, 0, 0)] _ from HB.out.box rfl 0 0)
          generalize World.alloc vv5 _ = vv6 at HB ⊢
          generalize vv5.heap.size = g5 at HB hltg5_1 hltg5_2 ⊢
          refine hK.out _ _ ⟨HB.out.c0 0 rfl, HB.out.c1 0 rfl, HB.out.c0 1 rfl, HB.out.c1 1 rfl⟩ (fun hHeld => ?_)
          clear hK K
          refine norm_ (a' := ?_) ?_ ?_; rotate_left
          · show Act.put _ (some 5) _ = _; simp only [Act.put, zA, zB, zC, i64_w, i32_w]; rfl
          exact norm_ (by simp only [putAll, Act.put, zA, zB, zC]) (hCont (g5, g6) _ ⟨Bx.swap (L := [(w.heap.size, a1, b1), (w.heap.size + 1, a2, b2)]) (g6, 0, 0) (g5, 0, 0) HB.out, by omega, by omega, by omega⟩)
        · skip
          refine value_ (w1 := ?_) (v := ?_) (by rfl) rfl ?_ ?_
          rotate_left 2
          · go_simp
            constructor
            · rfl
            · rfl
          have hltg5_1 := blk_lt (HB.out.bk 1 rfl)
          have hltg5_2 := blk_lt (HB.out.bk 2 rfl)
          replace HB := Aside0.mk (show Bx w [(w.heap.size, a1, b1), (w.heap.size + 1, a2, b2), (g6, 0, 0), (vv7.heap.size, 0, 0)] _ from HB.out.box rfl 0 0)
          generalize World.alloc vv7 _ = vv6 at HB ⊢
          generalize vv7.heap.size = g5 at HB hltg5_1 hltg5_2 ⊢
          refine hK.out _ _ ⟨HB.out.c0 0 rfl, HB.out.c1 0 rfl, HB.out.c0 1 rfl, HB.out.c1 1 rfl⟩ (fun hHeld => ?_)
          clear hK K
          refine norm_ (a' := ?_) ?_ ?_; rotate_left
          · show Act.put _ (some 5) _ = _; simp only [Act.put, zA, zB, zC, i64_w, i32_w]; rfl
          refine one_ (i := 5) (N := some 34) (bl 10 255) rfl rfl (by as_aux_lemma => kernel_rfl) (by decide) (fun K hK => ?_)
          refine goes_ Try.func38 (by as_aux_lemma => kernel_rfl) rfl #[.int .u8 21, .agg #[.int .i32 a1, .int .i32 b1], .agg #[.int .i32 a2, .int .i32 b2]] (by rfl) rfl rfl (by (try simp only [List.map_toArray, List.map_cons, List.map_nil]); first | done | rfl) ?_
          with_reducible refine (apply_c _ _ _ _ _ _ _ i_a1.out i_b1.out i_a2.out i_b2.out h21.out _).mono ?_
          rintro e vv5 ⟨rfl, hb⟩; refine ⟨_, rfl, ?_⟩
          replace HB := Aside0.mk (HB.out.step hb); clear hb
          refine hK.out _ _ ⟨HB.out.c0 0 rfl, HB.out.c1 0 rfl, HB.out.c0 1 rfl, HB.out.c1 1 rfl⟩ (fun hHeld => ?_)
          clear hK K
          refine norm_ (a' := ?_) ?_ ?_; rotate_left
          · show Act.put _ (some 34) _ = _; simp only [Act.put, zA, zB, zC, i64_w, i32_w]; rfl
          exact norm_ (by simp only [putAll, Act.put, zA, zB, zC]) (hCont (g5, g6) _ ⟨Bx.swap (L := [(w.heap.size, a1, b1), (w.heap.size + 1, a2, b2)]) (g6, 0, 0) (g5, 0, 0) HB.out, by omega, by omega, by omega⟩)
    · skip
      refine value_ (w1 := ?_) (v := ?_) (by rfl) rfl ?_ ?_
      rotate_left 2
      · go_simp
        constructor
        · rfl
        · rfl
      have hltg5_1 := blk_lt (HB.out.bk 1 rfl)
      replace HB := Aside0.mk (show Bx w [(w.heap.size, a1, b1), (w.heap.size + 1, a2, b2), (wv4.heap.size, 0, 0)] _ from HB.out.box rfl 0 0)
      generalize World.alloc wv4 _ = vv6 at HB ⊢
      generalize wv4.heap.size = g5 at HB hltg5_1 ⊢
      refine hK.out _ _ ⟨HB.out.c0 0 rfl, HB.out.c1 0 rfl, HB.out.c0 1 rfl, HB.out.c1 1 rfl⟩ (fun hHeld => ?_)
      clear hK K
      refine norm_ (a' := ?_) ?_ ?_; rotate_left
      · show Act.put _ (some 5) _ = _; simp only [Act.put, zA, zB, zC, i64_w, i32_w]; rfl
      refine two_ (i := 2) (j := 7) (Ni := some 31) (Nj := some 6) (bl 10 95) (bl 10 219) rfl rfl rfl rfl (by as_aux_lemma => kernel_rfl) (by decide) (by decide) (fun K hK => ?_) (fun K hK => ?_)
      · skip
        refine goes_ Try.func38 (by as_aux_lemma => kernel_rfl) rfl #[.int .u8 18, .agg #[.int .i32 a1, .int .i32 b1], .agg #[.int .i32 a2, .int .i32 b2]] (by rfl) rfl rfl (by (try simp only [List.map_toArray, List.map_cons, List.map_nil]); first | done | rfl) ?_
        with_reducible refine (apply_c _ _ _ _ _ _ _ i_a1.out i_b1.out i_a2.out i_b2.out h18.out _).mono ?_
        rintro e vv2 ⟨rfl, hb⟩; refine ⟨_, rfl, ?_⟩
        replace HB := Aside0.mk (HB.out.step hb); clear hb
        refine hK.out _ _ ⟨HB.out.c0 0 rfl, HB.out.c1 0 rfl, HB.out.c0 1 rfl, HB.out.c1 1 rfl⟩ (fun hHeld => ?_)
        clear hK K
        refine norm_ (a' := ?_) ?_ ?_; rotate_left
        · show Act.put _ (some 31) _ = _; simp only [Act.put, zA, zB, zC, i64_w, i32_w]; rfl
        refine two_ (i := 5) (j := 7) (Ni := some 34) (Nj := some 6) (bl 10 127) (bl 10 223) rfl rfl rfl rfl (by as_aux_lemma => kernel_rfl) (by decide) (by decide) (fun K hK => ?_) (fun K hK => ?_)
        · skip
          refine goes_ Try.func38 (by as_aux_lemma => kernel_rfl) rfl #[.int .u8 21, .agg #[.int .i32 a1, .int .i32 b1], .agg #[.int .i32 a2, .int .i32 b2]] (by rfl) rfl rfl (by (try simp only [List.map_toArray, List.map_cons, List.map_nil]); first | done | rfl) ?_
          with_reducible refine (apply_c _ _ _ _ _ _ _ i_a1.out i_b1.out i_a2.out i_b2.out h21.out _).mono ?_
          rintro e vv5 ⟨rfl, hb⟩; refine ⟨_, rfl, ?_⟩
          replace HB := Aside0.mk (HB.out.step hb); clear hb
          refine hK.out _ _ ⟨HB.out.c0 0 rfl, HB.out.c1 0 rfl, HB.out.c0 1 rfl, HB.out.c1 1 rfl⟩ (fun hHeld => ?_)
          clear hK K
          refine norm_ (a' := ?_) ?_ ?_; rotate_left
          · show Act.put _ (some 34) _ = _; simp only [Act.put, zA, zB, zC, i64_w, i32_w]; rfl
          refine one_ (i := 7) (N := some 6) (bl 10 255) rfl rfl (by as_aux_lemma => kernel_rfl) (by decide) (fun K hK => ?_)
          refine value_ (w1 := ?_) (v := ?_) (by rfl) rfl ?_ ?_
          rotate_left 2
          · go_simp
            constructor
            · rfl
            · rfl
          have hltg6_1 := blk_lt (HB.out.bk 1 rfl)
          have hltg6_2 := blk_lt (HB.out.bk 2 rfl)
          replace HB := Aside0.mk (show Bx w [(w.heap.size, a1, b1), (w.heap.size + 1, a2, b2), (g5, 0, 0), (vv5.heap.size, 0, 0)] _ from HB.out.box rfl 0 0)
          generalize World.alloc vv5 _ = vv7 at HB ⊢
          generalize vv5.heap.size = g6 at HB hltg6_1 hltg6_2 ⊢
          refine hK.out _ _ ⟨HB.out.c0 0 rfl, HB.out.c1 0 rfl, HB.out.c0 1 rfl, HB.out.c1 1 rfl⟩ (fun hHeld => ?_)
          clear hK K
          refine norm_ (a' := ?_) ?_ ?_; rotate_left
          · show Act.put _ (some 6) _ = _; simp only [Act.put, zA, zB, zC, i64_w, i32_w]; rfl
          exact norm_ (by simp only [putAll, Act.put, zA, zB, zC]) (hCont (g5, g6) _ ⟨HB.out, by omega, by omega, by omega⟩)
        · skip
          refine value_ (w1 := ?_) (v := ?_) (by rfl) rfl ?_ ?_
          rotate_left 2
          · go_simp
            constructor
            · rfl
            · rfl
          have hltg6_1 := blk_lt (HB.out.bk 1 rfl)
          have hltg6_2 := blk_lt (HB.out.bk 2 rfl)
          replace HB := Aside0.mk (show Bx w [(w.heap.size, a1, b1), (w.heap.size + 1, a2, b2), (g5, 0, 0), (vv2.heap.size, 0, 0)] _ from HB.out.box rfl 0 0)
          generalize World.alloc vv2 _ = vv7 at HB ⊢
          generalize vv2.heap.size = g6 at HB hltg6_1 hltg6_2 ⊢
          refine hK.out _ _ ⟨HB.out.c0 0 rfl, HB.out.c1 0 rfl, HB.out.c0 1 rfl, HB.out.c1 1 rfl⟩ (fun hHeld => ?_)
          clear hK K
          refine norm_ (a' := ?_) ?_ ?_; rotate_left
          · show Act.put _ (some 6) _ = _; simp only [Act.put, zA, zB, zC, i64_w, i32_w]; rfl
          refine one_ (i := 5) (N := some 34) (bl 10 255) rfl rfl (by as_aux_lemma => kernel_rfl) (by decide) (fun K hK => ?_)
          refine goes_ Try.func38 (by as_aux_lemma => kernel_rfl) rfl #[.int .u8 21, .agg #[.int .i32 a1, .int .i32 b1], .agg #[.int .i32 a2, .int .i32 b2]] (by rfl) rfl rfl (by (try simp only [List.map_toArray, List.map_cons, List.map_nil]); first | done | rfl) ?_
          with_reducible refine (apply_c _ _ _ _ _ _ _ i_a1.out i_b1.out i_a2.out i_b2.out h21.out _).mono ?_
          rintro e vv5 ⟨rfl, hb⟩; refine ⟨_, rfl, ?_⟩
          replace HB := Aside0.mk (HB.out.step hb); clear hb
          refine hK.out _ _ ⟨HB.out.c0 0 rfl, HB.out.c1 0 rfl, HB.out.c0 1 rfl, HB.out.c1 1 rfl⟩ (fun hHeld => ?_)
          clear hK K
          refine norm_ (a' := ?_) ?_ ?_; rotate_left
          · show Act.put _ (some 34) _ = _; simp only [Act.put, zA, zB, zC, i64_w, i32_w]; rfl
          exact norm_ (by simp only [putAll, Act.put, zA, zB, zC]) (hCont (g5, g6) _ ⟨HB.out, by omega, by omega, by omega⟩)
      · skip
        refine value_ (w1 := ?_) (v := ?_) (by rfl) rfl ?_ ?_
        rotate_left 2
        · go_simp
          constructor
          · rfl
          · rfl
        have hltg6_1 := blk_lt (HB.out.bk 1 rfl)
        have hltg6_2 := blk_lt (HB.out.bk 2 rfl)
        replace HB := Aside0.mk (show Bx w [(w.heap.size, a1, b1), (w.heap.size + 1, a2, b2), (g5, 0, 0), (vv6.heap.size, 0, 0)] _ from HB.out.box rfl 0 0)
        generalize World.alloc vv6 _ = vv7 at HB ⊢
        generalize vv6.heap.size = g6 at HB hltg6_1 hltg6_2 ⊢
        refine hK.out _ _ ⟨HB.out.c0 0 rfl, HB.out.c1 0 rfl, HB.out.c0 1 rfl, HB.out.c1 1 rfl⟩ (fun hHeld => ?_)
        clear hK K
        refine norm_ (a' := ?_) ?_ ?_; rotate_left
        · show Act.put _ (some 6) _ = _; simp only [Act.put, zA, zB, zC, i64_w, i32_w]; rfl
        refine one_ (i := 2) (N := some 31) (bl 10 223) rfl rfl (by as_aux_lemma => kernel_rfl) (by decide) (fun K hK => ?_)
        refine goes_ Try.func38 (by as_aux_lemma => kernel_rfl) rfl #[.int .u8 18, .agg #[.int .i32 a1, .int .i32 b1], .agg #[.int .i32 a2, .int .i32 b2]] (by rfl) rfl rfl (by (try simp only [List.map_toArray, List.map_cons, List.map_nil]); first | done | rfl) ?_
        with_reducible refine (apply_c _ _ _ _ _ _ _ i_a1.out i_b1.out i_a2.out i_b2.out h18.out _).mono ?_
        rintro e vv2 ⟨rfl, hb⟩; refine ⟨_, rfl, ?_⟩
        replace HB := Aside0.mk (HB.out.step hb); clear hb
        refine hK.out _ _ ⟨HB.out.c0 0 rfl, HB.out.c1 0 rfl, HB.out.c0 1 rfl, HB.out.c1 1 rfl⟩ (fun hHeld => ?_)
        clear hK K
        refine norm_ (a' := ?_) ?_ ?_; rotate_left
        · show Act.put _ (some 31) _ = _; simp only [Act.put, zA, zB, zC, i64_w, i32_w]; rfl
        refine one_ (i := 5) (N := some 34) (bl 10 255) rfl rfl (by as_aux_lemma => kernel_rfl) (by decide) (fun K hK => ?_)
        refine goes_ Try.func38 (by as_aux_lemma => kernel_rfl) rfl #[.int .u8 21, .agg #[.int .i32 a1, .int .i32 b1], .agg #[.int .i32 a2, .int .i32 b2]] (by rfl) rfl rfl (by (try simp only [List.map_toArray, List.map_cons, List.map_nil]); first | done | rfl) ?_
        with_reducible refine (apply_c _ _ _ _ _ _ _ i_a1.out i_b1.out i_a2.out i_b2.out h21.out _).mono ?_
        rintro e vv5 ⟨rfl, hb⟩; refine ⟨_, rfl, ?_⟩
        replace HB := Aside0.mk (HB.out.step hb); clear hb
        refine hK.out _ _ ⟨HB.out.c0 0 rfl, HB.out.c1 0 rfl, HB.out.c0 1 rfl, HB.out.c1 1 rfl⟩ (fun hHeld => ?_)
        clear hK K
        refine norm_ (a' := ?_) ?_ ?_; rotate_left
        · show Act.put _ (some 34) _ = _; simp only [Act.put, zA, zB, zC, i64_w, i32_w]; rfl
        exact norm_ (by simp only [putAll, Act.put, zA, zB, zC]) (hCont (g5, g6) _ ⟨HB.out, by omega, by omega, by omega⟩)
    · skip
      refine value_ (w1 := ?_) (v := ?_) (by rfl) rfl ?_ ?_
      rotate_left 2
      · go_simp
        constructor
        · rfl
        · rfl
      have hltg6_1 := blk_lt (HB.out.bk 1 rfl)
      replace HB := Aside0.mk (show Bx w [(w.heap.size, a1, b1), (w.heap.size + 1, a2, b2), (wv4.heap.size, 0, 0)] _ from HB.out.box rfl 0 0)
      generalize World.alloc wv4 _ = vv7 at HB ⊢
      generalize wv4.heap.size = g6 at HB hltg6_1 ⊢
      refine hK.out _ _ ⟨HB.out.c0 0 rfl, HB.out.c1 0 rfl, HB.out.c0 1 rfl, HB.out.c1 1 rfl⟩ (fun hHeld => ?_)
      clear hK K
      refine norm_ (a' := ?_) ?_ ?_; rotate_left
      · show Act.put _ (some 6) _ = _; simp only [Act.put, zA, zB, zC, i64_w, i32_w]; rfl
      refine two_ (i := 2) (j := 6) (Ni := some 31) (Nj := some 5) (bl 10 159) (bl 10 219) rfl rfl rfl rfl (by as_aux_lemma => kernel_rfl) (by decide) (by decide) (fun K hK => ?_) (fun K hK => ?_)
      · skip
        refine goes_ Try.func38 (by as_aux_lemma => kernel_rfl) rfl #[.int .u8 18, .agg #[.int .i32 a1, .int .i32 b1], .agg #[.int .i32 a2, .int .i32 b2]] (by rfl) rfl rfl (by (try simp only [List.map_toArray, List.map_cons, List.map_nil]); first | done | rfl) ?_
        with_reducible refine (apply_c _ _ _ _ _ _ _ i_a1.out i_b1.out i_a2.out i_b2.out h18.out _).mono ?_
        rintro e vv2 ⟨rfl, hb⟩; refine ⟨_, rfl, ?_⟩
        replace HB := Aside0.mk (HB.out.step hb); clear hb
        refine hK.out _ _ ⟨HB.out.c0 0 rfl, HB.out.c1 0 rfl, HB.out.c0 1 rfl, HB.out.c1 1 rfl⟩ (fun hHeld => ?_)
        clear hK K
        refine norm_ (a' := ?_) ?_ ?_; rotate_left
        · show Act.put _ (some 31) _ = _; simp only [Act.put, zA, zB, zC, i64_w, i32_w]; rfl
        refine two_ (i := 5) (j := 6) (Ni := some 34) (Nj := some 5) (bl 10 191) (bl 10 223) rfl rfl rfl rfl (by as_aux_lemma => kernel_rfl) (by decide) (by decide) (fun K hK => ?_) (fun K hK => ?_)
        · skip
          refine goes_ Try.func38 (by as_aux_lemma => kernel_rfl) rfl #[.int .u8 21, .agg #[.int .i32 a1, .int .i32 b1], .agg #[.int .i32 a2, .int .i32 b2]] (by rfl) rfl rfl (by (try simp only [List.map_toArray, List.map_cons, List.map_nil]); first | done | rfl) ?_
          with_reducible refine (apply_c _ _ _ _ _ _ _ i_a1.out i_b1.out i_a2.out i_b2.out h21.out _).mono ?_
          rintro e vv5 ⟨rfl, hb⟩; refine ⟨_, rfl, ?_⟩
          replace HB := Aside0.mk (HB.out.step hb); clear hb
          refine hK.out _ _ ⟨HB.out.c0 0 rfl, HB.out.c1 0 rfl, HB.out.c0 1 rfl, HB.out.c1 1 rfl⟩ (fun hHeld => ?_)
          clear hK K
          refine norm_ (a' := ?_) ?_ ?_; rotate_left
          · show Act.put _ (some 34) _ = _; simp only [Act.put, zA, zB, zC, i64_w, i32_w]; rfl
          refine one_ (i := 6) (N := some 5) (bl 10 255) rfl rfl (by as_aux_lemma => kernel_rfl) (by decide) (fun K hK => ?_)
          refine value_ (w1 := ?_) (v := ?_) (by rfl) rfl ?_ ?_
          rotate_left 2
          · go_simp
            constructor
            · rfl
            · rfl
          have hltg5_1 := blk_lt (HB.out.bk 1 rfl)
          have hltg5_2 := blk_lt (HB.out.bk 2 rfl)
          replace HB := Aside0.mk (show Bx w [(w.heap.size, a1, b1), (w.heap.size + 1, a2, b2), (g6, 0, 0), (vv5.heap.size, 0, 0)] _ from HB.out.box rfl 0 0)
          generalize World.alloc vv5 _ = vv6 at HB ⊢
          generalize vv5.heap.size = g5 at HB hltg5_1 hltg5_2 ⊢
          refine hK.out _ _ ⟨HB.out.c0 0 rfl, HB.out.c1 0 rfl, HB.out.c0 1 rfl, HB.out.c1 1 rfl⟩ (fun hHeld => ?_)
          clear hK K
          refine norm_ (a' := ?_) ?_ ?_; rotate_left
          · show Act.put _ (some 5) _ = _; simp only [Act.put, zA, zB, zC, i64_w, i32_w]; rfl
          exact norm_ (by simp only [putAll, Act.put, zA, zB, zC]) (hCont (g5, g6) _ ⟨Bx.swap (L := [(w.heap.size, a1, b1), (w.heap.size + 1, a2, b2)]) (g6, 0, 0) (g5, 0, 0) HB.out, by omega, by omega, by omega⟩)
        · skip
          refine value_ (w1 := ?_) (v := ?_) (by rfl) rfl ?_ ?_
          rotate_left 2
          · go_simp
            constructor
            · rfl
            · rfl
          have hltg5_1 := blk_lt (HB.out.bk 1 rfl)
          have hltg5_2 := blk_lt (HB.out.bk 2 rfl)
          replace HB := Aside0.mk (show Bx w [(w.heap.size, a1, b1), (w.heap.size + 1, a2, b2), (g6, 0, 0), (vv2.heap.size, 0, 0)] _ from HB.out.box rfl 0 0)
          generalize World.alloc vv2 _ = vv6 at HB ⊢
          generalize vv2.heap.size = g5 at HB hltg5_1 hltg5_2 ⊢
          refine hK.out _ _ ⟨HB.out.c0 0 rfl, HB.out.c1 0 rfl, HB.out.c0 1 rfl, HB.out.c1 1 rfl⟩ (fun hHeld => ?_)
          clear hK K
          refine norm_ (a' := ?_) ?_ ?_; rotate_left
          · show Act.put _ (some 5) _ = _; simp only [Act.put, zA, zB, zC, i64_w, i32_w]; rfl
          refine one_ (i := 5) (N := some 34) (bl 10 255) rfl rfl (by as_aux_lemma => kernel_rfl) (by decide) (fun K hK => ?_)
          refine goes_ Try.func38 (by as_aux_lemma => kernel_rfl) rfl #[.int .u8 21, .agg #[.int .i32 a1, .int .i32 b1], .agg #[.int .i32 a2, .int .i32 b2]] (by rfl) rfl rfl (by (try simp only [List.map_toArray, List.map_cons, List.map_nil]); first | done | rfl) ?_
          with_reducible refine (apply_c _ _ _ _ _ _ _ i_a1.out i_b1.out i_a2.out i_b2.out h21.out _).mono ?_
          rintro e vv5 ⟨rfl, hb⟩; refine ⟨_, rfl, ?_⟩
          replace HB := Aside0.mk (HB.out.step hb); clear hb
          refine hK.out _ _ ⟨HB.out.c0 0 rfl, HB.out.c1 0 rfl, HB.out.c0 1 rfl, HB.out.c1 1 rfl⟩ (fun hHeld => ?_)
          clear hK K
          refine norm_ (a' := ?_) ?_ ?_; rotate_left
          · show Act.put _ (some 34) _ = _; simp only [Act.put, zA, zB, zC, i64_w, i32_w]; rfl
          exact norm_ (by simp only [putAll, Act.put, zA, zB, zC]) (hCont (g5, g6) _ ⟨Bx.swap (L := [(w.heap.size, a1, b1), (w.heap.size + 1, a2, b2)]) (g6, 0, 0) (g5, 0, 0) HB.out, by omega, by omega, by omega⟩)
      · skip
        refine value_ (w1 := ?_) (v := ?_) (by rfl) rfl ?_ ?_
        rotate_left 2
        · go_simp
          constructor
          · rfl
          · rfl
        have hltg5_1 := blk_lt (HB.out.bk 1 rfl)
        have hltg5_2 := blk_lt (HB.out.bk 2 rfl)
        replace HB := Aside0.mk (show Bx w [(w.heap.size, a1, b1), (w.heap.size + 1, a2, b2), (g6, 0, 0), (vv7.heap.size, 0, 0)] _ from HB.out.box rfl 0 0)
        generalize World.alloc vv7 _ = vv6 at HB ⊢
        generalize vv7.heap.size = g5 at HB hltg5_1 hltg5_2 ⊢
        refine hK.out _ _ ⟨HB.out.c0 0 rfl, HB.out.c1 0 rfl, HB.out.c0 1 rfl, HB.out.c1 1 rfl⟩ (fun hHeld => ?_)
        clear hK K
        refine norm_ (a' := ?_) ?_ ?_; rotate_left
        · show Act.put _ (some 5) _ = _; simp only [Act.put, zA, zB, zC, i64_w, i32_w]; rfl
        refine one_ (i := 2) (N := some 31) (bl 10 223) rfl rfl (by as_aux_lemma => kernel_rfl) (by decide) (fun K hK => ?_)
        refine goes_ Try.func38 (by as_aux_lemma => kernel_rfl) rfl #[.int .u8 18, .agg #[.int .i32 a1, .int .i32 b1], .agg #[.int .i32 a2, .int .i32 b2]] (by rfl) rfl rfl (by (try simp only [List.map_toArray, List.map_cons, List.map_nil]); first | done | rfl) ?_
        with_reducible refine (apply_c _ _ _ _ _ _ _ i_a1.out i_b1.out i_a2.out i_b2.out h18.out _).mono ?_
        rintro e vv2 ⟨rfl, hb⟩; refine ⟨_, rfl, ?_⟩
        replace HB := Aside0.mk (HB.out.step hb); clear hb
        refine hK.out _ _ ⟨HB.out.c0 0 rfl, HB.out.c1 0 rfl, HB.out.c0 1 rfl, HB.out.c1 1 rfl⟩ (fun hHeld => ?_)
        clear hK K
        refine norm_ (a' := ?_) ?_ ?_; rotate_left
        · show Act.put _ (some 31) _ = _; simp only [Act.put, zA, zB, zC, i64_w, i32_w]; rfl
        refine one_ (i := 5) (N := some 34) (bl 10 255) rfl rfl (by as_aux_lemma => kernel_rfl) (by decide) (fun K hK => ?_)
        refine goes_ Try.func38 (by as_aux_lemma => kernel_rfl) rfl #[.int .u8 21, .agg #[.int .i32 a1, .int .i32 b1], .agg #[.int .i32 a2, .int .i32 b2]] (by rfl) rfl rfl (by (try simp only [List.map_toArray, List.map_cons, List.map_nil]); first | done | rfl) ?_
        with_reducible refine (apply_c _ _ _ _ _ _ _ i_a1.out i_b1.out i_a2.out i_b2.out h21.out _).mono ?_
        rintro e vv5 ⟨rfl, hb⟩; refine ⟨_, rfl, ?_⟩
        replace HB := Aside0.mk (HB.out.step hb); clear hb
        refine hK.out _ _ ⟨HB.out.c0 0 rfl, HB.out.c1 0 rfl, HB.out.c0 1 rfl, HB.out.c1 1 rfl⟩ (fun hHeld => ?_)
        clear hK K
        refine norm_ (a' := ?_) ?_ ?_; rotate_left
        · show Act.put _ (some 34) _ = _; simp only [Act.put, zA, zB, zC, i64_w, i32_w]; rfl
        exact norm_ (by simp only [putAll, Act.put, zA, zB, zC]) (hCont (g5, g6) _ ⟨Bx.swap (L := [(w.heap.size, a1, b1), (w.heap.size + 1, a2, b2)]) (g6, 0, 0) (g5, 0, 0) HB.out, by omega, by omega, by omega⟩)
  clear HB
  rintro ⟨g5, g6⟩ w' ⟨HB1, hlg5_1, hlg6_1, hneg5⟩
  have hlg5_1 : w.heap.size + 1 < g5 := hlg5_1
  have hlg6_1 : w.heap.size + 1 < g6 := hlg6_1
  have hneg5 : g5 ≠ g6 := hneg5
  have HB : Aside0 (Bx w [(w.heap.size, a1, b1), (w.heap.size + 1, a2, b2), (g5, 0, 0), (g6, 0, 0)] w') := ⟨HB1⟩
  clear HB1
  have hHeld : w'.cell? ⟨w.heap.size, 0, none⟩ = some (.int .i32 a1) ∧ w'.cell? ⟨w.heap.size, 1, none⟩ = some (.int .i32 b1) ∧ w'.cell? ⟨w.heap.size + 1, 0, none⟩ = some (.int .i32 a2) ∧ w'.cell? ⟨w.heap.size + 1, 1, none⟩ = some (.int .i32 b2) := ⟨HB.out.c0 0 rfl, HB.out.c1 0 rfl, HB.out.c0 1 rfl, HB.out.c1 1 rfl⟩
  refine norm_ (a' := ?_) ?_ ?_; rotate_left
  · simp only [putAll, Act.put, zA, zB, zC]
    rfl
  refine one_ (i := 8) (N := none) (bl 10 511) rfl rfl (by as_aux_lemma => kernel_rfl) (by decide) (fun K hK => ?_)
  have C := HB.out.cl
  simp only [Cl, and_true] at C
  obtain ⟨_, _, _, _, _, _, _, _, _, _, _, _, _, _, _, _⟩ := C
  refine skip_ (w1 := ?_) (by rfl) rfl ?_ ?_
  rotate_left
  · go_simp
    rfl
  replace HB := Aside0.mk (show Bx w [(w.heap.size, a1, b1), (w.heap.size + 1, a2, b2), (g5, l1, l2), (g6, 0, 0)] _ from HB.out.put 2 rfl (by intro m g' a' b' hm hne; rcases m with _ | _ | _ | _ | m <;> simp at hm <;> omega) (by omega) l1 l2)
  generalize World.setCell (World.setCell _ _ _) _ _ = wv2 at HB ⊢
  refine hK.out _ _ ⟨HB.out.c0 0 rfl, HB.out.c1 0 rfl, HB.out.c0 1 rfl, HB.out.c1 1 rfl⟩ (fun hHeld => ?_)
  clear hK K
  refine one_ (i := 9) (N := none) (bl 10 1023) rfl rfl (by as_aux_lemma => kernel_rfl) (by decide) (fun K hK => ?_)
  have C := HB.out.cl
  simp only [Cl, and_true] at C
  obtain ⟨_, _, _, _, _, _, _, _, _, _, _, _, _, _, _, _⟩ := C
  refine skip_ (w1 := ?_) (by rfl) rfl ?_ ?_
  rotate_left
  · go_simp
    rfl
  replace HB := Aside0.mk (show Bx w [(w.heap.size, a1, b1), (w.heap.size + 1, a2, b2), (g5, l1, l2), (g6, g1, g2)] _ from HB.out.put 3 rfl (by intro m g' a' b' hm hne; rcases m with _ | _ | _ | _ | m <;> simp at hm <;> omega) (by omega) g1 g2)
  generalize World.setCell (World.setCell _ _ _) _ _ = wv3 at HB ⊢
  refine hK.out _ _ ⟨HB.out.c0 0 rfl, HB.out.c1 0 rfl, HB.out.c0 1 rfl, HB.out.c1 1 rfl⟩ (fun hHeld => ?_)
  clear hK K
  refine done_ (by as_aux_lemma => kernel_rfl) ?_
  have C := HB.out.cl
  simp only [Cl, and_true] at C
  obtain ⟨_, _, _, _, _, _, _, _, _, _, _, _, _, _, _, _⟩ := C
  go_upto_region 4 with (fail)
  replace HB := Aside0.mk (HB.out.drew)
  refine start_ (n := 10) (S := fun w' => w'.cell? ⟨w.heap.size, 0, none⟩ = some (.int .i32 a1) ∧ w'.cell? ⟨w.heap.size, 1, none⟩ = some (.int .i32 b1) ∧ w'.cell? ⟨w.heap.size + 1, 0, none⟩ = some (.int .i32 a2) ∧ w'.cell? ⟨w.heap.size + 1, 1, none⟩ = some (.int .i32 b2)) (ds := []) #[false, false, false, false, false, false, false, false, false, false] (by as_aux_lemma => kernel_rfl) rfl rfl ⟨HB.out.c0 0 rfl, HB.out.c1 0 rfl, HB.out.c0 1 rfl, HB.out.c1 1 rfl⟩ (fun hHeld => ?_)
  generalize wv3.drew = wv7 at HB hHeld ⊢
  refine take_ (i := 0) (N := some 35) (v := ?_) (a' := ?_) (bl 10 1) rfl rfl (by as_aux_lemma => kernel_rfl) (fun _ _ _ h => h) (Or.inl ⟨by rfl, ?_⟩) hHeld ?_ ?_
  rotate_left
  · rintro w' ⟨s0, s1, s2, s3⟩; go_simp; with_reducible rfl
  rotate_left
  · simp only [Act.put, zA, zB, zC, i64_w, i32_w]; rfl
  refine take_ (i := 1) (N := some 36) (v := ?_) (a' := ?_) (bl 10 3) rfl rfl (by as_aux_lemma => kernel_rfl) (fun _ _ _ h => h) (Or.inl ⟨by rfl, ?_⟩) hHeld ?_ ?_
  rotate_left
  · rintro w' ⟨s0, s1, s2, s3⟩; go_simp; with_reducible rfl
  rotate_left
  · simp only [Act.put, zA, zB, zC, i64_w, i32_w]; rfl
  refine take_ (i := 3) (N := some 38) (v := ?_) (a' := ?_) (bl 10 11) rfl rfl (by as_aux_lemma => kernel_rfl) (fun _ _ _ h => h) (Or.inl ⟨by rfl, ?_⟩) hHeld ?_ ?_
  rotate_left
  · rintro w' ⟨s0, s1, s2, s3⟩; go_simp; with_reducible rfl
  rotate_left
  · simp only [Act.put, zA, zB, zC, i64_w, i32_w]; rfl
  refine take_ (i := 4) (N := some 39) (v := ?_) (a' := ?_) (bl 10 27) rfl rfl (by as_aux_lemma => kernel_rfl) (fun _ _ _ h => h) (Or.inl ⟨by rfl, ?_⟩) hHeld ?_ ?_
  rotate_left
  · rintro w' ⟨s0, s1, s2, s3⟩; go_simp; with_reducible rfl
  rotate_left
  · simp only [Act.put, zA, zB, zC, i64_w, i32_w]; rfl
  refine join_ (σ := Nat × Nat) 2 (bl 10 255) (fun sg => [(37, .agg #[.int .i32 m1, .int .i32 m2]), (40, .agg #[.int .i32 n1, .int .i32 n2]), (7, .pointer (some ⟨sg.1, 0, none⟩)), (8, .pointer (some ⟨sg.2, 0, none⟩))]) (fun sg w' => Bx w [(w.heap.size, a1, b1), (w.heap.size + 1, a2, b2), (g5, l1, l2), (g6, g1, g2), (sg.1, 0, 0), (sg.2, 0, 0)] w' ∧ w.heap.size + 1 < sg.1 ∧ g5 < sg.1 ∧ g6 < sg.1 ∧ w.heap.size + 1 < sg.2 ∧ g5 < sg.2 ∧ g6 < sg.2 ∧ sg.1 ≠ sg.2) ?_ ?_
  rotate_left
  · intro hCont
    as_aux_lemma =>
    refine three_ (i := 2) (j := 6) (k := 7) (Ni := some 37) (Nj := some 7) (Nk := some 8) (bl 10 31) (bl 10 91) (bl 10 155) rfl rfl rfl rfl rfl rfl (by as_aux_lemma => kernel_rfl) (by decide) (by decide) (by decide) (fun K hK => ?_) (fun K hK => ?_) (fun K hK => ?_)
    · skip
      refine goes_ Try.func38 (by as_aux_lemma => kernel_rfl) rfl #[.int .u8 19, .agg #[.int .i32 a1, .int .i32 b1], .agg #[.int .i32 a2, .int .i32 b2]] (by rfl) rfl rfl (by (try simp only [List.map_toArray, List.map_cons, List.map_nil]); first | done | rfl) ?_
      with_reducible refine (apply_c _ _ _ _ _ _ _ i_a1.out i_b1.out i_a2.out i_b2.out h19.out _).mono ?_
      rintro e vv2 ⟨rfl, hb⟩; refine ⟨_, rfl, ?_⟩
      replace HB := Aside0.mk (HB.out.step hb); clear hb
      refine hK.out _ _ ⟨HB.out.c0 0 rfl, HB.out.c1 0 rfl, HB.out.c0 1 rfl, HB.out.c1 1 rfl⟩ (fun hHeld => ?_)
      clear hK K
      refine norm_ (a' := ?_) ?_ ?_; rotate_left
      · show Act.put _ (some 37) _ = _; simp only [Act.put, zA, zB, zC, i64_w, i32_w]; rfl
      refine three_ (i := 5) (j := 6) (k := 7) (Ni := some 40) (Nj := some 7) (Nk := some 8) (bl 10 63) (bl 10 95) (bl 10 159) rfl rfl rfl rfl rfl rfl (by as_aux_lemma => kernel_rfl) (by decide) (by decide) (by decide) (fun K hK => ?_) (fun K hK => ?_) (fun K hK => ?_)
      · skip
        refine goes_ Try.func38 (by as_aux_lemma => kernel_rfl) rfl #[.int .u8 20, .agg #[.int .i32 a1, .int .i32 b1], .agg #[.int .i32 a2, .int .i32 b2]] (by rfl) rfl rfl (by (try simp only [List.map_toArray, List.map_cons, List.map_nil]); first | done | rfl) ?_
        with_reducible refine (apply_c _ _ _ _ _ _ _ i_a1.out i_b1.out i_a2.out i_b2.out h20.out _).mono ?_
        rintro e vv5 ⟨rfl, hb⟩; refine ⟨_, rfl, ?_⟩
        replace HB := Aside0.mk (HB.out.step hb); clear hb
        refine hK.out _ _ ⟨HB.out.c0 0 rfl, HB.out.c1 0 rfl, HB.out.c0 1 rfl, HB.out.c1 1 rfl⟩ (fun hHeld => ?_)
        clear hK K
        refine norm_ (a' := ?_) ?_ ?_; rotate_left
        · show Act.put _ (some 40) _ = _; simp only [Act.put, zA, zB, zC, i64_w, i32_w]; rfl
        refine two_ (i := 6) (j := 7) (Ni := some 7) (Nj := some 8) (bl 10 127) (bl 10 191) rfl rfl rfl rfl (by as_aux_lemma => kernel_rfl) (by decide) (by decide) (fun K hK => ?_) (fun K hK => ?_)
        · skip
          refine value_ (w1 := ?_) (v := ?_) (by rfl) rfl ?_ ?_
          rotate_left 2
          · go_simp
            constructor
            · rfl
            · rfl
          have hltg7_1 := blk_lt (HB.out.bk 1 rfl)
          have hltg7_2 := blk_lt (HB.out.bk 2 rfl)
          have hltg7_3 := blk_lt (HB.out.bk 3 rfl)
          replace HB := Aside0.mk (show Bx w [(w.heap.size, a1, b1), (w.heap.size + 1, a2, b2), (g5, l1, l2), (g6, g1, g2), (vv5.heap.size, 0, 0)] _ from HB.out.box rfl 0 0)
          generalize World.alloc vv5 _ = vv6 at HB ⊢
          generalize vv5.heap.size = g7 at HB hltg7_1 hltg7_2 hltg7_3 ⊢
          refine hK.out _ _ ⟨HB.out.c0 0 rfl, HB.out.c1 0 rfl, HB.out.c0 1 rfl, HB.out.c1 1 rfl⟩ (fun hHeld => ?_)
          clear hK K
          refine norm_ (a' := ?_) ?_ ?_; rotate_left
          · show Act.put _ (some 7) _ = _; simp only [Act.put, zA, zB, zC, i64_w, i32_w]; rfl
          refine one_ (i := 7) (N := some 8) (bl 10 255) rfl rfl (by as_aux_lemma => kernel_rfl) (by decide) (fun K hK => ?_)
          refine value_ (w1 := ?_) (v := ?_) (by rfl) rfl ?_ ?_
          rotate_left 2
          · go_simp
            constructor
            · rfl
            · rfl
          have hltg8_1 := blk_lt (HB.out.bk 1 rfl)
          have hltg8_2 := blk_lt (HB.out.bk 2 rfl)
          have hltg8_3 := blk_lt (HB.out.bk 3 rfl)
          have hltg8_4 := blk_lt (HB.out.bk 4 rfl)
          replace HB := Aside0.mk (show Bx w [(w.heap.size, a1, b1), (w.heap.size + 1, a2, b2), (g5, l1, l2), (g6, g1, g2), (g7, 0, 0), (vv6.heap.size, 0, 0)] _ from HB.out.box rfl 0 0)
          generalize World.alloc vv6 _ = vv7 at HB ⊢
          generalize vv6.heap.size = g8 at HB hltg8_1 hltg8_2 hltg8_3 hltg8_4 ⊢
          refine hK.out _ _ ⟨HB.out.c0 0 rfl, HB.out.c1 0 rfl, HB.out.c0 1 rfl, HB.out.c1 1 rfl⟩ (fun hHeld => ?_)
          clear hK K
          refine norm_ (a' := ?_) ?_ ?_; rotate_left
          · show Act.put _ (some 8) _ = _; simp only [Act.put, zA, zB, zC, i64_w, i32_w]; rfl
          exact norm_ (by simp only [putAll, Act.put, zA, zB, zC]) (hCont (g7, g8) _ ⟨HB.out, by omega, by omega, by omega, by omega, by omega, by omega, by omega⟩)
        · skip
          refine value_ (w1 := ?_) (v := ?_) (by rfl) rfl ?_ ?_
          rotate_left 2
          · go_simp
            constructor
            · rfl
            · rfl
          have hltg8_1 := blk_lt (HB.out.bk 1 rfl)
          have hltg8_2 := blk_lt (HB.out.bk 2 rfl)
          have hltg8_3 := blk_lt (HB.out.bk 3 rfl)
          replace HB := Aside0.mk (show Bx w [(w.heap.size, a1, b1), (w.heap.size + 1, a2, b2), (g5, l1, l2), (g6, g1, g2), (vv5.heap.size, 0, 0)] _ from HB.out.box rfl 0 0)
          generalize World.alloc vv5 _ = vv7 at HB ⊢
          generalize vv5.heap.size = g8 at HB hltg8_1 hltg8_2 hltg8_3 ⊢
          refine hK.out _ _ ⟨HB.out.c0 0 rfl, HB.out.c1 0 rfl, HB.out.c0 1 rfl, HB.out.c1 1 rfl⟩ (fun hHeld => ?_)
          clear hK K
          refine norm_ (a' := ?_) ?_ ?_; rotate_left
          · show Act.put _ (some 8) _ = _; simp only [Act.put, zA, zB, zC, i64_w, i32_w]; rfl
          refine one_ (i := 6) (N := some 7) (bl 10 255) rfl rfl (by as_aux_lemma => kernel_rfl) (by decide) (fun K hK => ?_)
          refine value_ (w1 := ?_) (v := ?_) (by rfl) rfl ?_ ?_
          rotate_left 2
          · go_simp
            constructor
            · rfl
            · rfl
          have hltg7_1 := blk_lt (HB.out.bk 1 rfl)
          have hltg7_2 := blk_lt (HB.out.bk 2 rfl)
          have hltg7_3 := blk_lt (HB.out.bk 3 rfl)
          have hltg7_4 := blk_lt (HB.out.bk 4 rfl)
          replace HB := Aside0.mk (show Bx w [(w.heap.size, a1, b1), (w.heap.size + 1, a2, b2), (g5, l1, l2), (g6, g1, g2), (g8, 0, 0), (vv7.heap.size, 0, 0)] _ from HB.out.box rfl 0 0)
          generalize World.alloc vv7 _ = vv6 at HB ⊢
          generalize vv7.heap.size = g7 at HB hltg7_1 hltg7_2 hltg7_3 hltg7_4 ⊢
          refine hK.out _ _ ⟨HB.out.c0 0 rfl, HB.out.c1 0 rfl, HB.out.c0 1 rfl, HB.out.c1 1 rfl⟩ (fun hHeld => ?_)
          clear hK K
          refine norm_ (a' := ?_) ?_ ?_; rotate_left
          · show Act.put _ (some 7) _ = _; simp only [Act.put, zA, zB, zC, i64_w, i32_w]; rfl
          exact norm_ (by simp only [putAll, Act.put, zA, zB, zC]) (hCont (g7, g8) _ ⟨Bx.swap (L := [(w.heap.size, a1, b1), (w.heap.size + 1, a2, b2), (g5, l1, l2), (g6, g1, g2)]) (g8, 0, 0) (g7, 0, 0) HB.out, by omega, by omega, by omega, by omega, by omega, by omega, by omega⟩)
      · skip
        refine value_ (w1 := ?_) (v := ?_) (by rfl) rfl ?_ ?_
        rotate_left 2
        · go_simp
          constructor
          · rfl
          · rfl
        have hltg7_1 := blk_lt (HB.out.bk 1 rfl)
        have hltg7_2 := blk_lt (HB.out.bk 2 rfl)
        have hltg7_3 := blk_lt (HB.out.bk 3 rfl)
        replace HB := Aside0.mk (show Bx w [(w.heap.size, a1, b1), (w.heap.size + 1, a2, b2), (g5, l1, l2), (g6, g1, g2), (vv2.heap.size, 0, 0)] _ from HB.out.box rfl 0 0)
        generalize World.alloc vv2 _ = vv6 at HB ⊢
        generalize vv2.heap.size = g7 at HB hltg7_1 hltg7_2 hltg7_3 ⊢
        refine hK.out _ _ ⟨HB.out.c0 0 rfl, HB.out.c1 0 rfl, HB.out.c0 1 rfl, HB.out.c1 1 rfl⟩ (fun hHeld => ?_)
        clear hK K
        refine norm_ (a' := ?_) ?_ ?_; rotate_left
        · show Act.put _ (some 7) _ = _; simp only [Act.put, zA, zB, zC, i64_w, i32_w]; rfl
        refine two_ (i := 5) (j := 7) (Ni := some 40) (Nj := some 8) (bl 10 127) (bl 10 223) rfl rfl rfl rfl (by as_aux_lemma => kernel_rfl) (by decide) (by decide) (fun K hK => ?_) (fun K hK => ?_)
        · skip
          refine goes_ Try.func38 (by as_aux_lemma => kernel_rfl) rfl #[.int .u8 20, .agg #[.int .i32 a1, .int .i32 b1], .agg #[.int .i32 a2, .int .i32 b2]] (by rfl) rfl rfl (by (try simp only [List.map_toArray, List.map_cons, List.map_nil]); first | done | rfl) ?_
          with_reducible refine (apply_c _ _ _ _ _ _ _ i_a1.out i_b1.out i_a2.out i_b2.out h20.out _).mono ?_
          rintro e vv5 ⟨rfl, hb⟩; refine ⟨_, rfl, ?_⟩
          replace HB := Aside0.mk (HB.out.step hb); clear hb
          refine hK.out _ _ ⟨HB.out.c0 0 rfl, HB.out.c1 0 rfl, HB.out.c0 1 rfl, HB.out.c1 1 rfl⟩ (fun hHeld => ?_)
          clear hK K
          refine norm_ (a' := ?_) ?_ ?_; rotate_left
          · show Act.put _ (some 40) _ = _; simp only [Act.put, zA, zB, zC, i64_w, i32_w]; rfl
          refine one_ (i := 7) (N := some 8) (bl 10 255) rfl rfl (by as_aux_lemma => kernel_rfl) (by decide) (fun K hK => ?_)
          refine value_ (w1 := ?_) (v := ?_) (by rfl) rfl ?_ ?_
          rotate_left 2
          · go_simp
            constructor
            · rfl
            · rfl
          have hltg8_1 := blk_lt (HB.out.bk 1 rfl)
          have hltg8_2 := blk_lt (HB.out.bk 2 rfl)
          have hltg8_3 := blk_lt (HB.out.bk 3 rfl)
          have hltg8_4 := blk_lt (HB.out.bk 4 rfl)
          replace HB := Aside0.mk (show Bx w [(w.heap.size, a1, b1), (w.heap.size + 1, a2, b2), (g5, l1, l2), (g6, g1, g2), (g7, 0, 0), (vv5.heap.size, 0, 0)] _ from HB.out.box rfl 0 0)
          generalize World.alloc vv5 _ = vv7 at HB ⊢
          generalize vv5.heap.size = g8 at HB hltg8_1 hltg8_2 hltg8_3 hltg8_4 ⊢
          refine hK.out _ _ ⟨HB.out.c0 0 rfl, HB.out.c1 0 rfl, HB.out.c0 1 rfl, HB.out.c1 1 rfl⟩ (fun hHeld => ?_)
          clear hK K
          refine norm_ (a' := ?_) ?_ ?_; rotate_left
          · show Act.put _ (some 8) _ = _; simp only [Act.put, zA, zB, zC, i64_w, i32_w]; rfl
          exact norm_ (by simp only [putAll, Act.put, zA, zB, zC]) (hCont (g7, g8) _ ⟨HB.out, by omega, by omega, by omega, by omega, by omega, by omega, by omega⟩)
        · skip
          refine value_ (w1 := ?_) (v := ?_) (by rfl) rfl ?_ ?_
          rotate_left 2
          · go_simp
            constructor
            · rfl
            · rfl
          have hltg8_1 := blk_lt (HB.out.bk 1 rfl)
          have hltg8_2 := blk_lt (HB.out.bk 2 rfl)
          have hltg8_3 := blk_lt (HB.out.bk 3 rfl)
          have hltg8_4 := blk_lt (HB.out.bk 4 rfl)
          replace HB := Aside0.mk (show Bx w [(w.heap.size, a1, b1), (w.heap.size + 1, a2, b2), (g5, l1, l2), (g6, g1, g2), (g7, 0, 0), (vv6.heap.size, 0, 0)] _ from HB.out.box rfl 0 0)
          generalize World.alloc vv6 _ = vv7 at HB ⊢
          generalize vv6.heap.size = g8 at HB hltg8_1 hltg8_2 hltg8_3 hltg8_4 ⊢
          refine hK.out _ _ ⟨HB.out.c0 0 rfl, HB.out.c1 0 rfl, HB.out.c0 1 rfl, HB.out.c1 1 rfl⟩ (fun hHeld => ?_)
          clear hK K
          refine norm_ (a' := ?_) ?_ ?_; rotate_left
          · show Act.put _ (some 8) _ = _; simp only [Act.put, zA, zB, zC, i64_w, i32_w]; rfl
          refine one_ (i := 5) (N := some 40) (bl 10 255) rfl rfl (by as_aux_lemma => kernel_rfl) (by decide) (fun K hK => ?_)
          refine goes_ Try.func38 (by as_aux_lemma => kernel_rfl) rfl #[.int .u8 20, .agg #[.int .i32 a1, .int .i32 b1], .agg #[.int .i32 a2, .int .i32 b2]] (by rfl) rfl rfl (by (try simp only [List.map_toArray, List.map_cons, List.map_nil]); first | done | rfl) ?_
          with_reducible refine (apply_c _ _ _ _ _ _ _ i_a1.out i_b1.out i_a2.out i_b2.out h20.out _).mono ?_
          rintro e vv5 ⟨rfl, hb⟩; refine ⟨_, rfl, ?_⟩
          replace HB := Aside0.mk (HB.out.step hb); clear hb
          refine hK.out _ _ ⟨HB.out.c0 0 rfl, HB.out.c1 0 rfl, HB.out.c0 1 rfl, HB.out.c1 1 rfl⟩ (fun hHeld => ?_)
          clear hK K
          refine norm_ (a' := ?_) ?_ ?_; rotate_left
          · show Act.put _ (some 40) _ = _; simp only [Act.put, zA, zB, zC, i64_w, i32_w]; rfl
          exact norm_ (by simp only [putAll, Act.put, zA, zB, zC]) (hCont (g7, g8) _ ⟨HB.out, by omega, by omega, by omega, by omega, by omega, by omega, by omega⟩)
      · skip
        refine value_ (w1 := ?_) (v := ?_) (by rfl) rfl ?_ ?_
        rotate_left 2
        · go_simp
          constructor
          · rfl
          · rfl
        have hltg8_1 := blk_lt (HB.out.bk 1 rfl)
        have hltg8_2 := blk_lt (HB.out.bk 2 rfl)
        have hltg8_3 := blk_lt (HB.out.bk 3 rfl)
        replace HB := Aside0.mk (show Bx w [(w.heap.size, a1, b1), (w.heap.size + 1, a2, b2), (g5, l1, l2), (g6, g1, g2), (vv2.heap.size, 0, 0)] _ from HB.out.box rfl 0 0)
        generalize World.alloc vv2 _ = vv7 at HB ⊢
        generalize vv2.heap.size = g8 at HB hltg8_1 hltg8_2 hltg8_3 ⊢
        refine hK.out _ _ ⟨HB.out.c0 0 rfl, HB.out.c1 0 rfl, HB.out.c0 1 rfl, HB.out.c1 1 rfl⟩ (fun hHeld => ?_)
        clear hK K
        refine norm_ (a' := ?_) ?_ ?_; rotate_left
        · show Act.put _ (some 8) _ = _; simp only [Act.put, zA, zB, zC, i64_w, i32_w]; rfl
        refine two_ (i := 5) (j := 6) (Ni := some 40) (Nj := some 7) (bl 10 191) (bl 10 223) rfl rfl rfl rfl (by as_aux_lemma => kernel_rfl) (by decide) (by decide) (fun K hK => ?_) (fun K hK => ?_)
        · skip
          refine goes_ Try.func38 (by as_aux_lemma => kernel_rfl) rfl #[.int .u8 20, .agg #[.int .i32 a1, .int .i32 b1], .agg #[.int .i32 a2, .int .i32 b2]] (by rfl) rfl rfl (by (try simp only [List.map_toArray, List.map_cons, List.map_nil]); first | done | rfl) ?_
          with_reducible refine (apply_c _ _ _ _ _ _ _ i_a1.out i_b1.out i_a2.out i_b2.out h20.out _).mono ?_
          rintro e vv5 ⟨rfl, hb⟩; refine ⟨_, rfl, ?_⟩
          replace HB := Aside0.mk (HB.out.step hb); clear hb
          refine hK.out _ _ ⟨HB.out.c0 0 rfl, HB.out.c1 0 rfl, HB.out.c0 1 rfl, HB.out.c1 1 rfl⟩ (fun hHeld => ?_)
          clear hK K
          refine norm_ (a' := ?_) ?_ ?_; rotate_left
          · show Act.put _ (some 40) _ = _; simp only [Act.put, zA, zB, zC, i64_w, i32_w]; rfl
          refine one_ (i := 6) (N := some 7) (bl 10 255) rfl rfl (by as_aux_lemma => kernel_rfl) (by decide) (fun K hK => ?_)
          refine value_ (w1 := ?_) (v := ?_) (by rfl) rfl ?_ ?_
          rotate_left 2
          · go_simp
            constructor
            · rfl
            · rfl
          have hltg7_1 := blk_lt (HB.out.bk 1 rfl)
          have hltg7_2 := blk_lt (HB.out.bk 2 rfl)
          have hltg7_3 := blk_lt (HB.out.bk 3 rfl)
          have hltg7_4 := blk_lt (HB.out.bk 4 rfl)
          replace HB := Aside0.mk (show Bx w [(w.heap.size, a1, b1), (w.heap.size + 1, a2, b2), (g5, l1, l2), (g6, g1, g2), (g8, 0, 0), (vv5.heap.size, 0, 0)] _ from HB.out.box rfl 0 0)
          generalize World.alloc vv5 _ = vv6 at HB ⊢
          generalize vv5.heap.size = g7 at HB hltg7_1 hltg7_2 hltg7_3 hltg7_4 ⊢
          refine hK.out _ _ ⟨HB.out.c0 0 rfl, HB.out.c1 0 rfl, HB.out.c0 1 rfl, HB.out.c1 1 rfl⟩ (fun hHeld => ?_)
          clear hK K
          refine norm_ (a' := ?_) ?_ ?_; rotate_left
          · show Act.put _ (some 7) _ = _; simp only [Act.put, zA, zB, zC, i64_w, i32_w]; rfl
          exact norm_ (by simp only [putAll, Act.put, zA, zB, zC]) (hCont (g7, g8) _ ⟨Bx.swap (L := [(w.heap.size, a1, b1), (w.heap.size + 1, a2, b2), (g5, l1, l2), (g6, g1, g2)]) (g8, 0, 0) (g7, 0, 0) HB.out, by omega, by omega, by omega, by omega, by omega, by omega, by omega⟩)
        · skip
          refine value_ (w1 := ?_) (v := ?_) (by rfl) rfl ?_ ?_
          rotate_left 2
          · go_simp
            constructor
            · rfl
            · rfl
          have hltg7_1 := blk_lt (HB.out.bk 1 rfl)
          have hltg7_2 := blk_lt (HB.out.bk 2 rfl)
          have hltg7_3 := blk_lt (HB.out.bk 3 rfl)
          have hltg7_4 := blk_lt (HB.out.bk 4 rfl)
          replace HB := Aside0.mk (show Bx w [(w.heap.size, a1, b1), (w.heap.size + 1, a2, b2), (g5, l1, l2), (g6, g1, g2), (g8, 0, 0), (vv7.heap.size, 0, 0)] _ from HB.out.box rfl 0 0)
          generalize World.alloc vv7 _ = vv6 at HB ⊢
          generalize vv7.heap.size = g7 at HB hltg7_1 hltg7_2 hltg7_3 hltg7_4 ⊢
          refine hK.out _ _ ⟨HB.out.c0 0 rfl, HB.out.c1 0 rfl, HB.out.c0 1 rfl, HB.out.c1 1 rfl⟩ (fun hHeld => ?_)
          clear hK K
          refine norm_ (a' := ?_) ?_ ?_; rotate_left
          · show Act.put _ (some 7) _ = _; simp only [Act.put, zA, zB, zC, i64_w, i32_w]; rfl
          refine one_ (i := 5) (N := some 40) (bl 10 255) rfl rfl (by as_aux_lemma => kernel_rfl) (by decide) (fun K hK => ?_)
          refine goes_ Try.func38 (by as_aux_lemma => kernel_rfl) rfl #[.int .u8 20, .agg #[.int .i32 a1, .int .i32 b1], .agg #[.int .i32 a2, .int .i32 b2]] (by rfl) rfl rfl (by (try simp only [List.map_toArray, List.map_cons, List.map_nil]); first | done | rfl) ?_
          with_reducible refine (apply_c _ _ _ _ _ _ _ i_a1.out i_b1.out i_a2.out i_b2.out h20.out _).mono ?_
          rintro e vv5 ⟨rfl, hb⟩; refine ⟨_, rfl, ?_⟩
          replace HB := Aside0.mk (HB.out.step hb); clear hb
          refine hK.out _ _ ⟨HB.out.c0 0 rfl, HB.out.c1 0 rfl, HB.out.c0 1 rfl, HB.out.c1 1 rfl⟩ (fun hHeld => ?_)
          clear hK K
          refine norm_ (a' := ?_) ?_ ?_; rotate_left
          · show Act.put _ (some 40) _ = _; simp only [Act.put, zA, zB, zC, i64_w, i32_w]; rfl
          exact norm_ (by simp only [putAll, Act.put, zA, zB, zC]) (hCont (g7, g8) _ ⟨Bx.swap (L := [(w.heap.size, a1, b1), (w.heap.size + 1, a2, b2), (g5, l1, l2), (g6, g1, g2)]) (g8, 0, 0) (g7, 0, 0) HB.out, by omega, by omega, by omega, by omega, by omega, by omega, by omega⟩)
    · skip
      refine value_ (w1 := ?_) (v := ?_) (by rfl) rfl ?_ ?_
      rotate_left 2
      · go_simp
        constructor
        · rfl
        · rfl
      have hltg7_1 := blk_lt (HB.out.bk 1 rfl)
      have hltg7_2 := blk_lt (HB.out.bk 2 rfl)
      have hltg7_3 := blk_lt (HB.out.bk 3 rfl)
      replace HB := Aside0.mk (show Bx w [(w.heap.size, a1, b1), (w.heap.size + 1, a2, b2), (g5, l1, l2), (g6, g1, g2), (wv7.heap.size, 0, 0)] _ from HB.out.box rfl 0 0)
      generalize World.alloc wv7 _ = vv6 at HB ⊢
      generalize wv7.heap.size = g7 at HB hltg7_1 hltg7_2 hltg7_3 ⊢
      refine hK.out _ _ ⟨HB.out.c0 0 rfl, HB.out.c1 0 rfl, HB.out.c0 1 rfl, HB.out.c1 1 rfl⟩ (fun hHeld => ?_)
      clear hK K
      refine norm_ (a' := ?_) ?_ ?_; rotate_left
      · show Act.put _ (some 7) _ = _; simp only [Act.put, zA, zB, zC, i64_w, i32_w]; rfl
      refine two_ (i := 2) (j := 7) (Ni := some 37) (Nj := some 8) (bl 10 95) (bl 10 219) rfl rfl rfl rfl (by as_aux_lemma => kernel_rfl) (by decide) (by decide) (fun K hK => ?_) (fun K hK => ?_)
      · skip
        refine goes_ Try.func38 (by as_aux_lemma => kernel_rfl) rfl #[.int .u8 19, .agg #[.int .i32 a1, .int .i32 b1], .agg #[.int .i32 a2, .int .i32 b2]] (by rfl) rfl rfl (by (try simp only [List.map_toArray, List.map_cons, List.map_nil]); first | done | rfl) ?_
        with_reducible refine (apply_c _ _ _ _ _ _ _ i_a1.out i_b1.out i_a2.out i_b2.out h19.out _).mono ?_
        rintro e vv2 ⟨rfl, hb⟩; refine ⟨_, rfl, ?_⟩
        replace HB := Aside0.mk (HB.out.step hb); clear hb
        refine hK.out _ _ ⟨HB.out.c0 0 rfl, HB.out.c1 0 rfl, HB.out.c0 1 rfl, HB.out.c1 1 rfl⟩ (fun hHeld => ?_)
        clear hK K
        refine norm_ (a' := ?_) ?_ ?_; rotate_left
        · show Act.put _ (some 37) _ = _; simp only [Act.put, zA, zB, zC, i64_w, i32_w]; rfl
        refine two_ (i := 5) (j := 7) (Ni := some 40) (Nj := some 8) (bl 10 127) (bl 10 223) rfl rfl rfl rfl (by as_aux_lemma => kernel_rfl) (by decide) (by decide) (fun K hK => ?_) (fun K hK => ?_)
        · skip
          refine goes_ Try.func38 (by as_aux_lemma => kernel_rfl) rfl #[.int .u8 20, .agg #[.int .i32 a1, .int .i32 b1], .agg #[.int .i32 a2, .int .i32 b2]] (by rfl) rfl rfl (by (try simp only [List.map_toArray, List.map_cons, List.map_nil]); first | done | rfl) ?_
          with_reducible refine (apply_c _ _ _ _ _ _ _ i_a1.out i_b1.out i_a2.out i_b2.out h20.out _).mono ?_
          rintro e vv5 ⟨rfl, hb⟩; refine ⟨_, rfl, ?_⟩
          replace HB := Aside0.mk (HB.out.step hb); clear hb
          refine hK.out _ _ ⟨HB.out.c0 0 rfl, HB.out.c1 0 rfl, HB.out.c0 1 rfl, HB.out.c1 1 rfl⟩ (fun hHeld => ?_)
          clear hK K
          refine norm_ (a' := ?_) ?_ ?_; rotate_left
          · show Act.put _ (some 40) _ = _; simp only [Act.put, zA, zB, zC, i64_w, i32_w]; rfl
          refine one_ (i := 7) (N := some 8) (bl 10 255) rfl rfl (by as_aux_lemma => kernel_rfl) (by decide) (fun K hK => ?_)
          refine value_ (w1 := ?_) (v := ?_) (by rfl) rfl ?_ ?_
          rotate_left 2
          · go_simp
            constructor
            · rfl
            · rfl
          have hltg8_1 := blk_lt (HB.out.bk 1 rfl)
          have hltg8_2 := blk_lt (HB.out.bk 2 rfl)
          have hltg8_3 := blk_lt (HB.out.bk 3 rfl)
          have hltg8_4 := blk_lt (HB.out.bk 4 rfl)
          replace HB := Aside0.mk (show Bx w [(w.heap.size, a1, b1), (w.heap.size + 1, a2, b2), (g5, l1, l2), (g6, g1, g2), (g7, 0, 0), (vv5.heap.size, 0, 0)] _ from HB.out.box rfl 0 0)
          generalize World.alloc vv5 _ = vv7 at HB ⊢
          generalize vv5.heap.size = g8 at HB hltg8_1 hltg8_2 hltg8_3 hltg8_4 ⊢
          refine hK.out _ _ ⟨HB.out.c0 0 rfl, HB.out.c1 0 rfl, HB.out.c0 1 rfl, HB.out.c1 1 rfl⟩ (fun hHeld => ?_)
          clear hK K
          refine norm_ (a' := ?_) ?_ ?_; rotate_left
          · show Act.put _ (some 8) _ = _; simp only [Act.put, zA, zB, zC, i64_w, i32_w]; rfl
          exact norm_ (by simp only [putAll, Act.put, zA, zB, zC]) (hCont (g7, g8) _ ⟨HB.out, by omega, by omega, by omega, by omega, by omega, by omega, by omega⟩)
        · skip
          refine value_ (w1 := ?_) (v := ?_) (by rfl) rfl ?_ ?_
          rotate_left 2
          · go_simp
            constructor
            · rfl
            · rfl
          have hltg8_1 := blk_lt (HB.out.bk 1 rfl)
          have hltg8_2 := blk_lt (HB.out.bk 2 rfl)
          have hltg8_3 := blk_lt (HB.out.bk 3 rfl)
          have hltg8_4 := blk_lt (HB.out.bk 4 rfl)
          replace HB := Aside0.mk (show Bx w [(w.heap.size, a1, b1), (w.heap.size + 1, a2, b2), (g5, l1, l2), (g6, g1, g2), (g7, 0, 0), (vv2.heap.size, 0, 0)] _ from HB.out.box rfl 0 0)
          generalize World.alloc vv2 _ = vv7 at HB ⊢
          generalize vv2.heap.size = g8 at HB hltg8_1 hltg8_2 hltg8_3 hltg8_4 ⊢
          refine hK.out _ _ ⟨HB.out.c0 0 rfl, HB.out.c1 0 rfl, HB.out.c0 1 rfl, HB.out.c1 1 rfl⟩ (fun hHeld => ?_)
          clear hK K
          refine norm_ (a' := ?_) ?_ ?_; rotate_left
          · show Act.put _ (some 8) _ = _; simp only [Act.put, zA, zB, zC, i64_w, i32_w]; rfl
          refine one_ (i := 5) (N := some 40) (bl 10 255) rfl rfl (by as_aux_lemma => kernel_rfl) (by decide) (fun K hK => ?_)
          refine goes_ Try.func38 (by as_aux_lemma => kernel_rfl) rfl #[.int .u8 20, .agg #[.int .i32 a1, .int .i32 b1], .agg #[.int .i32 a2, .int .i32 b2]] (by rfl) rfl rfl (by (try simp only [List.map_toArray, List.map_cons, List.map_nil]); first | done | rfl) ?_
          with_reducible refine (apply_c _ _ _ _ _ _ _ i_a1.out i_b1.out i_a2.out i_b2.out h20.out _).mono ?_
          rintro e vv5 ⟨rfl, hb⟩; refine ⟨_, rfl, ?_⟩
          replace HB := Aside0.mk (HB.out.step hb); clear hb
          refine hK.out _ _ ⟨HB.out.c0 0 rfl, HB.out.c1 0 rfl, HB.out.c0 1 rfl, HB.out.c1 1 rfl⟩ (fun hHeld => ?_)
          clear hK K
          refine norm_ (a' := ?_) ?_ ?_; rotate_left
          · show Act.put _ (some 40) _ = _; simp only [Act.put, zA, zB, zC, i64_w, i32_w]; rfl
          exact norm_ (by simp only [putAll, Act.put, zA, zB, zC]) (hCont (g7, g8) _ ⟨HB.out, by omega, by omega, by omega, by omega, by omega, by omega, by omega⟩)
      · skip
        refine value_ (w1 := ?_) (v := ?_) (by rfl) rfl ?_ ?_
        rotate_left 2
        · go_simp
          constructor
          · rfl
          · rfl
        have hltg8_1 := blk_lt (HB.out.bk 1 rfl)
        have hltg8_2 := blk_lt (HB.out.bk 2 rfl)
        have hltg8_3 := blk_lt (HB.out.bk 3 rfl)
        have hltg8_4 := blk_lt (HB.out.bk 4 rfl)
        replace HB := Aside0.mk (show Bx w [(w.heap.size, a1, b1), (w.heap.size + 1, a2, b2), (g5, l1, l2), (g6, g1, g2), (g7, 0, 0), (vv6.heap.size, 0, 0)] _ from HB.out.box rfl 0 0)
        generalize World.alloc vv6 _ = vv7 at HB ⊢
        generalize vv6.heap.size = g8 at HB hltg8_1 hltg8_2 hltg8_3 hltg8_4 ⊢
        refine hK.out _ _ ⟨HB.out.c0 0 rfl, HB.out.c1 0 rfl, HB.out.c0 1 rfl, HB.out.c1 1 rfl⟩ (fun hHeld => ?_)
        clear hK K
        refine norm_ (a' := ?_) ?_ ?_; rotate_left
        · show Act.put _ (some 8) _ = _; simp only [Act.put, zA, zB, zC, i64_w, i32_w]; rfl
        refine one_ (i := 2) (N := some 37) (bl 10 223) rfl rfl (by as_aux_lemma => kernel_rfl) (by decide) (fun K hK => ?_)
        refine goes_ Try.func38 (by as_aux_lemma => kernel_rfl) rfl #[.int .u8 19, .agg #[.int .i32 a1, .int .i32 b1], .agg #[.int .i32 a2, .int .i32 b2]] (by rfl) rfl rfl (by (try simp only [List.map_toArray, List.map_cons, List.map_nil]); first | done | rfl) ?_
        with_reducible refine (apply_c _ _ _ _ _ _ _ i_a1.out i_b1.out i_a2.out i_b2.out h19.out _).mono ?_
        rintro e vv2 ⟨rfl, hb⟩; refine ⟨_, rfl, ?_⟩
        replace HB := Aside0.mk (HB.out.step hb); clear hb
        refine hK.out _ _ ⟨HB.out.c0 0 rfl, HB.out.c1 0 rfl, HB.out.c0 1 rfl, HB.out.c1 1 rfl⟩ (fun hHeld => ?_)
        clear hK K
        refine norm_ (a' := ?_) ?_ ?_; rotate_left
        · show Act.put _ (some 37) _ = _; simp only [Act.put, zA, zB, zC, i64_w, i32_w]; rfl
        refine one_ (i := 5) (N := some 40) (bl 10 255) rfl rfl (by as_aux_lemma => kernel_rfl) (by decide) (fun K hK => ?_)
        refine goes_ Try.func38 (by as_aux_lemma => kernel_rfl) rfl #[.int .u8 20, .agg #[.int .i32 a1, .int .i32 b1], .agg #[.int .i32 a2, .int .i32 b2]] (by rfl) rfl rfl (by (try simp only [List.map_toArray, List.map_cons, List.map_nil]); first | done | rfl) ?_
        with_reducible refine (apply_c _ _ _ _ _ _ _ i_a1.out i_b1.out i_a2.out i_b2.out h20.out _).mono ?_
        rintro e vv5 ⟨rfl, hb⟩; refine ⟨_, rfl, ?_⟩
        replace HB := Aside0.mk (HB.out.step hb); clear hb
        refine hK.out _ _ ⟨HB.out.c0 0 rfl, HB.out.c1 0 rfl, HB.out.c0 1 rfl, HB.out.c1 1 rfl⟩ (fun hHeld => ?_)
        clear hK K
        refine norm_ (a' := ?_) ?_ ?_; rotate_left
        · show Act.put _ (some 40) _ = _; simp only [Act.put, zA, zB, zC, i64_w, i32_w]; rfl
        exact norm_ (by simp only [putAll, Act.put, zA, zB, zC]) (hCont (g7, g8) _ ⟨HB.out, by omega, by omega, by omega, by omega, by omega, by omega, by omega⟩)
    · skip
      refine value_ (w1 := ?_) (v := ?_) (by rfl) rfl ?_ ?_
      rotate_left 2
      · go_simp
        constructor
        · rfl
        · rfl
      have hltg8_1 := blk_lt (HB.out.bk 1 rfl)
      have hltg8_2 := blk_lt (HB.out.bk 2 rfl)
      have hltg8_3 := blk_lt (HB.out.bk 3 rfl)
      replace HB := Aside0.mk (show Bx w [(w.heap.size, a1, b1), (w.heap.size + 1, a2, b2), (g5, l1, l2), (g6, g1, g2), (wv7.heap.size, 0, 0)] _ from HB.out.box rfl 0 0)
      generalize World.alloc wv7 _ = vv7 at HB ⊢
      generalize wv7.heap.size = g8 at HB hltg8_1 hltg8_2 hltg8_3 ⊢
      refine hK.out _ _ ⟨HB.out.c0 0 rfl, HB.out.c1 0 rfl, HB.out.c0 1 rfl, HB.out.c1 1 rfl⟩ (fun hHeld => ?_)
      clear hK K
      refine norm_ (a' := ?_) ?_ ?_; rotate_left
      · show Act.put _ (some 8) _ = _; simp only [Act.put, zA, zB, zC, i64_w, i32_w]; rfl
      refine two_ (i := 2) (j := 6) (Ni := some 37) (Nj := some 7) (bl 10 159) (bl 10 219) rfl rfl rfl rfl (by as_aux_lemma => kernel_rfl) (by decide) (by decide) (fun K hK => ?_) (fun K hK => ?_)
      · skip
        refine goes_ Try.func38 (by as_aux_lemma => kernel_rfl) rfl #[.int .u8 19, .agg #[.int .i32 a1, .int .i32 b1], .agg #[.int .i32 a2, .int .i32 b2]] (by rfl) rfl rfl (by (try simp only [List.map_toArray, List.map_cons, List.map_nil]); first | done | rfl) ?_
        with_reducible refine (apply_c _ _ _ _ _ _ _ i_a1.out i_b1.out i_a2.out i_b2.out h19.out _).mono ?_
        rintro e vv2 ⟨rfl, hb⟩; refine ⟨_, rfl, ?_⟩
        replace HB := Aside0.mk (HB.out.step hb); clear hb
        refine hK.out _ _ ⟨HB.out.c0 0 rfl, HB.out.c1 0 rfl, HB.out.c0 1 rfl, HB.out.c1 1 rfl⟩ (fun hHeld => ?_)
        clear hK K
        refine norm_ (a' := ?_) ?_ ?_; rotate_left
        · show Act.put _ (some 37) _ = _; simp only [Act.put, zA, zB, zC, i64_w, i32_w]; rfl
        refine two_ (i := 5) (j := 6) (Ni := some 40) (Nj := some 7) (bl 10 191) (bl 10 223) rfl rfl rfl rfl (by as_aux_lemma => kernel_rfl) (by decide) (by decide) (fun K hK => ?_) (fun K hK => ?_)
        · skip
          refine goes_ Try.func38 (by as_aux_lemma => kernel_rfl) rfl #[.int .u8 20, .agg #[.int .i32 a1, .int .i32 b1], .agg #[.int .i32 a2, .int .i32 b2]] (by rfl) rfl rfl (by (try simp only [List.map_toArray, List.map_cons, List.map_nil]); first | done | rfl) ?_
          with_reducible refine (apply_c _ _ _ _ _ _ _ i_a1.out i_b1.out i_a2.out i_b2.out h20.out _).mono ?_
          rintro e vv5 ⟨rfl, hb⟩; refine ⟨_, rfl, ?_⟩
          replace HB := Aside0.mk (HB.out.step hb); clear hb
          refine hK.out _ _ ⟨HB.out.c0 0 rfl, HB.out.c1 0 rfl, HB.out.c0 1 rfl, HB.out.c1 1 rfl⟩ (fun hHeld => ?_)
          clear hK K
          refine norm_ (a' := ?_) ?_ ?_; rotate_left
          · show Act.put _ (some 40) _ = _; simp only [Act.put, zA, zB, zC, i64_w, i32_w]; rfl
          refine one_ (i := 6) (N := some 7) (bl 10 255) rfl rfl (by as_aux_lemma => kernel_rfl) (by decide) (fun K hK => ?_)
          refine value_ (w1 := ?_) (v := ?_) (by rfl) rfl ?_ ?_
          rotate_left 2
          · go_simp
            constructor
            · rfl
            · rfl
          have hltg7_1 := blk_lt (HB.out.bk 1 rfl)
          have hltg7_2 := blk_lt (HB.out.bk 2 rfl)
          have hltg7_3 := blk_lt (HB.out.bk 3 rfl)
          have hltg7_4 := blk_lt (HB.out.bk 4 rfl)
          replace HB := Aside0.mk (show Bx w [(w.heap.size, a1, b1), (w.heap.size + 1, a2, b2), (g5, l1, l2), (g6, g1, g2), (g8, 0, 0), (vv5.heap.size, 0, 0)] _ from HB.out.box rfl 0 0)
          generalize World.alloc vv5 _ = vv6 at HB ⊢
          generalize vv5.heap.size = g7 at HB hltg7_1 hltg7_2 hltg7_3 hltg7_4 ⊢
          refine hK.out _ _ ⟨HB.out.c0 0 rfl, HB.out.c1 0 rfl, HB.out.c0 1 rfl, HB.out.c1 1 rfl⟩ (fun hHeld => ?_)
          clear hK K
          refine norm_ (a' := ?_) ?_ ?_; rotate_left
          · show Act.put _ (some 7) _ = _; simp only [Act.put, zA, zB, zC, i64_w, i32_w]; rfl
          exact norm_ (by simp only [putAll, Act.put, zA, zB, zC]) (hCont (g7, g8) _ ⟨Bx.swap (L := [(w.heap.size, a1, b1), (w.heap.size + 1, a2, b2), (g5, l1, l2), (g6, g1, g2)]) (g8, 0, 0) (g7, 0, 0) HB.out, by omega, by omega, by omega, by omega, by omega, by omega, by omega⟩)
        · skip
          refine value_ (w1 := ?_) (v := ?_) (by rfl) rfl ?_ ?_
          rotate_left 2
          · go_simp
            constructor
            · rfl
            · rfl
          have hltg7_1 := blk_lt (HB.out.bk 1 rfl)
          have hltg7_2 := blk_lt (HB.out.bk 2 rfl)
          have hltg7_3 := blk_lt (HB.out.bk 3 rfl)
          have hltg7_4 := blk_lt (HB.out.bk 4 rfl)
          replace HB := Aside0.mk (show Bx w [(w.heap.size, a1, b1), (w.heap.size + 1, a2, b2), (g5, l1, l2), (g6, g1, g2), (g8, 0, 0), (vv2.heap.size, 0, 0)] _ from HB.out.box rfl 0 0)
          generalize World.alloc vv2 _ = vv6 at HB ⊢
          generalize vv2.heap.size = g7 at HB hltg7_1 hltg7_2 hltg7_3 hltg7_4 ⊢
          refine hK.out _ _ ⟨HB.out.c0 0 rfl, HB.out.c1 0 rfl, HB.out.c0 1 rfl, HB.out.c1 1 rfl⟩ (fun hHeld => ?_)
          clear hK K
          refine norm_ (a' := ?_) ?_ ?_; rotate_left
          · show Act.put _ (some 7) _ = _; simp only [Act.put, zA, zB, zC, i64_w, i32_w]; rfl
          refine one_ (i := 5) (N := some 40) (bl 10 255) rfl rfl (by as_aux_lemma => kernel_rfl) (by decide) (fun K hK => ?_)
          refine goes_ Try.func38 (by as_aux_lemma => kernel_rfl) rfl #[.int .u8 20, .agg #[.int .i32 a1, .int .i32 b1], .agg #[.int .i32 a2, .int .i32 b2]] (by rfl) rfl rfl (by (try simp only [List.map_toArray, List.map_cons, List.map_nil]); first | done | rfl) ?_
          with_reducible refine (apply_c _ _ _ _ _ _ _ i_a1.out i_b1.out i_a2.out i_b2.out h20.out _).mono ?_
          rintro e vv5 ⟨rfl, hb⟩; refine ⟨_, rfl, ?_⟩
          replace HB := Aside0.mk (HB.out.step hb); clear hb
          refine hK.out _ _ ⟨HB.out.c0 0 rfl, HB.out.c1 0 rfl, HB.out.c0 1 rfl, HB.out.c1 1 rfl⟩ (fun hHeld => ?_)
          clear hK K
          refine norm_ (a' := ?_) ?_ ?_; rotate_left
          · show Act.put _ (some 40) _ = _; simp only [Act.put, zA, zB, zC, i64_w, i32_w]; rfl
          exact norm_ (by simp only [putAll, Act.put, zA, zB, zC]) (hCont (g7, g8) _ ⟨Bx.swap (L := [(w.heap.size, a1, b1), (w.heap.size + 1, a2, b2), (g5, l1, l2), (g6, g1, g2)]) (g8, 0, 0) (g7, 0, 0) HB.out, by omega, by omega, by omega, by omega, by omega, by omega, by omega⟩)
      · skip
        refine value_ (w1 := ?_) (v := ?_) (by rfl) rfl ?_ ?_
        rotate_left 2
        · go_simp
          constructor
          · rfl
          · rfl
        have hltg7_1 := blk_lt (HB.out.bk 1 rfl)
        have hltg7_2 := blk_lt (HB.out.bk 2 rfl)
        have hltg7_3 := blk_lt (HB.out.bk 3 rfl)
        have hltg7_4 := blk_lt (HB.out.bk 4 rfl)
        replace HB := Aside0.mk (show Bx w [(w.heap.size, a1, b1), (w.heap.size + 1, a2, b2), (g5, l1, l2), (g6, g1, g2), (g8, 0, 0), (vv7.heap.size, 0, 0)] _ from HB.out.box rfl 0 0)
        generalize World.alloc vv7 _ = vv6 at HB ⊢
        generalize vv7.heap.size = g7 at HB hltg7_1 hltg7_2 hltg7_3 hltg7_4 ⊢
        refine hK.out _ _ ⟨HB.out.c0 0 rfl, HB.out.c1 0 rfl, HB.out.c0 1 rfl, HB.out.c1 1 rfl⟩ (fun hHeld => ?_)
        clear hK K
        refine norm_ (a' := ?_) ?_ ?_; rotate_left
        · show Act.put _ (some 7) _ = _; simp only [Act.put, zA, zB, zC, i64_w, i32_w]; rfl
        refine one_ (i := 2) (N := some 37) (bl 10 223) rfl rfl (by as_aux_lemma => kernel_rfl) (by decide) (fun K hK => ?_)
        refine goes_ Try.func38 (by as_aux_lemma => kernel_rfl) rfl #[.int .u8 19, .agg #[.int .i32 a1, .int .i32 b1], .agg #[.int .i32 a2, .int .i32 b2]] (by rfl) rfl rfl (by (try simp only [List.map_toArray, List.map_cons, List.map_nil]); first | done | rfl) ?_
        with_reducible refine (apply_c _ _ _ _ _ _ _ i_a1.out i_b1.out i_a2.out i_b2.out h19.out _).mono ?_
        rintro e vv2 ⟨rfl, hb⟩; refine ⟨_, rfl, ?_⟩
        replace HB := Aside0.mk (HB.out.step hb); clear hb
        refine hK.out _ _ ⟨HB.out.c0 0 rfl, HB.out.c1 0 rfl, HB.out.c0 1 rfl, HB.out.c1 1 rfl⟩ (fun hHeld => ?_)
        clear hK K
        refine norm_ (a' := ?_) ?_ ?_; rotate_left
        · show Act.put _ (some 37) _ = _; simp only [Act.put, zA, zB, zC, i64_w, i32_w]; rfl
        refine one_ (i := 5) (N := some 40) (bl 10 255) rfl rfl (by as_aux_lemma => kernel_rfl) (by decide) (fun K hK => ?_)
        refine goes_ Try.func38 (by as_aux_lemma => kernel_rfl) rfl #[.int .u8 20, .agg #[.int .i32 a1, .int .i32 b1], .agg #[.int .i32 a2, .int .i32 b2]] (by rfl) rfl rfl (by (try simp only [List.map_toArray, List.map_cons, List.map_nil]); first | done | rfl) ?_
        with_reducible refine (apply_c _ _ _ _ _ _ _ i_a1.out i_b1.out i_a2.out i_b2.out h20.out _).mono ?_
        rintro e vv5 ⟨rfl, hb⟩; refine ⟨_, rfl, ?_⟩
        replace HB := Aside0.mk (HB.out.step hb); clear hb
        refine hK.out _ _ ⟨HB.out.c0 0 rfl, HB.out.c1 0 rfl, HB.out.c0 1 rfl, HB.out.c1 1 rfl⟩ (fun hHeld => ?_)
        clear hK K
        refine norm_ (a' := ?_) ?_ ?_; rotate_left
        · show Act.put _ (some 40) _ = _; simp only [Act.put, zA, zB, zC, i64_w, i32_w]; rfl
        exact norm_ (by simp only [putAll, Act.put, zA, zB, zC]) (hCont (g7, g8) _ ⟨Bx.swap (L := [(w.heap.size, a1, b1), (w.heap.size + 1, a2, b2), (g5, l1, l2), (g6, g1, g2)]) (g8, 0, 0) (g7, 0, 0) HB.out, by omega, by omega, by omega, by omega, by omega, by omega, by omega⟩)
  clear HB
  rintro ⟨g7, g8⟩ w' ⟨HB1, hlg7_1, hlg7_2, hlg7_3, hlg8_1, hlg8_2, hlg8_3, hneg7⟩
  have hlg7_1 : w.heap.size + 1 < g7 := hlg7_1
  have hlg7_2 : g5 < g7 := hlg7_2
  have hlg7_3 : g6 < g7 := hlg7_3
  have hlg8_1 : w.heap.size + 1 < g8 := hlg8_1
  have hlg8_2 : g5 < g8 := hlg8_2
  have hlg8_3 : g6 < g8 := hlg8_3
  have hneg7 : g7 ≠ g8 := hneg7
  have HB : Aside0 (Bx w [(w.heap.size, a1, b1), (w.heap.size + 1, a2, b2), (g5, l1, l2), (g6, g1, g2), (g7, 0, 0), (g8, 0, 0)] w') := ⟨HB1⟩
  clear HB1
  have hHeld : w'.cell? ⟨w.heap.size, 0, none⟩ = some (.int .i32 a1) ∧ w'.cell? ⟨w.heap.size, 1, none⟩ = some (.int .i32 b1) ∧ w'.cell? ⟨w.heap.size + 1, 0, none⟩ = some (.int .i32 a2) ∧ w'.cell? ⟨w.heap.size + 1, 1, none⟩ = some (.int .i32 b2) := ⟨HB.out.c0 0 rfl, HB.out.c1 0 rfl, HB.out.c0 1 rfl, HB.out.c1 1 rfl⟩
  refine norm_ (a' := ?_) ?_ ?_; rotate_left
  · simp only [putAll, Act.put, zA, zB, zC]
    rfl
  refine one_ (i := 8) (N := none) (bl 10 511) rfl rfl (by as_aux_lemma => kernel_rfl) (by decide) (fun K hK => ?_)
  have C := HB.out.cl
  simp only [Cl, and_true] at C
  obtain ⟨_, _, _, _, _, _, _, _, _, _, _, _, _, _, _, _, _, _, _, _, _, _, _, _⟩ := C
  refine skip_ (w1 := ?_) (by rfl) rfl ?_ ?_
  rotate_left
  · go_simp
    rfl
  replace HB := Aside0.mk (show Bx w [(w.heap.size, a1, b1), (w.heap.size + 1, a2, b2), (g5, l1, l2), (g6, g1, g2), (g7, m1, m2), (g8, 0, 0)] _ from HB.out.put 4 rfl (by intro m g' a' b' hm hne; rcases m with _ | _ | _ | _ | _ | _ | m <;> simp at hm <;> omega) (by omega) m1 m2)
  generalize World.setCell (World.setCell _ _ _) _ _ = wv5 at HB ⊢
  refine hK.out _ _ ⟨HB.out.c0 0 rfl, HB.out.c1 0 rfl, HB.out.c0 1 rfl, HB.out.c1 1 rfl⟩ (fun hHeld => ?_)
  clear hK K
  refine one_ (i := 9) (N := none) (bl 10 1023) rfl rfl (by as_aux_lemma => kernel_rfl) (by decide) (fun K hK => ?_)
  have C := HB.out.cl
  simp only [Cl, and_true] at C
  obtain ⟨_, _, _, _, _, _, _, _, _, _, _, _, _, _, _, _, _, _, _, _, _, _, _, _⟩ := C
  refine skip_ (w1 := ?_) (by rfl) rfl ?_ ?_
  rotate_left
  · go_simp
    rfl
  replace HB := Aside0.mk (show Bx w [(w.heap.size, a1, b1), (w.heap.size + 1, a2, b2), (g5, l1, l2), (g6, g1, g2), (g7, m1, m2), (g8, n1, n2)] _ from HB.out.put 5 rfl (by intro m g' a' b' hm hne; rcases m with _ | _ | _ | _ | _ | _ | m <;> simp at hm <;> omega) (by omega) n1 n2)
  generalize World.setCell (World.setCell _ _ _) _ _ = wv6 at HB ⊢
  refine hK.out _ _ ⟨HB.out.c0 0 rfl, HB.out.c1 0 rfl, HB.out.c0 1 rfl, HB.out.c1 1 rfl⟩ (fun hHeld => ?_)
  clear hK K
  refine done_ (by as_aux_lemma => kernel_rfl) ?_
  have C := HB.out.cl
  simp only [Cl, and_true] at C
  obtain ⟨_, _, _, _, _, _, _, _, _, _, _, _, _, _, _, _, _, _, _, _, _, _, _, _⟩ := C
  go_upto_region 5 with (fail)
  replace HB := Aside0.mk (HB.out.drew)
  refine start_ (n := 10) (S := fun w' => w'.cell? ⟨w.heap.size, 0, none⟩ = some (.int .i32 a1) ∧ w'.cell? ⟨w.heap.size, 1, none⟩ = some (.int .i32 b1) ∧ w'.cell? ⟨w.heap.size + 1, 0, none⟩ = some (.int .i32 a2) ∧ w'.cell? ⟨w.heap.size + 1, 1, none⟩ = some (.int .i32 b2)) (ds := []) #[false, false, false, false, false, false, false, false, false, false] (by as_aux_lemma => kernel_rfl) rfl rfl ⟨HB.out.c0 0 rfl, HB.out.c1 0 rfl, HB.out.c0 1 rfl, HB.out.c1 1 rfl⟩ (fun hHeld => ?_)
  generalize wv6.drew = wv10 at HB hHeld ⊢
  refine take_ (i := 0) (N := some 41) (v := ?_) (a' := ?_) (bl 10 1) rfl rfl (by as_aux_lemma => kernel_rfl) (fun _ _ _ h => h) (Or.inl ⟨by rfl, ?_⟩) hHeld ?_ ?_
  rotate_left
  · rintro w' ⟨s0, s1, s2, s3⟩; go_simp; with_reducible rfl
  rotate_left
  · simp only [Act.put, zA, zB, zC, i64_w, i32_w]; rfl
  refine take_ (i := 1) (N := some 42) (v := ?_) (a' := ?_) (bl 10 3) rfl rfl (by as_aux_lemma => kernel_rfl) (fun _ _ _ h => h) (Or.inl ⟨by rfl, ?_⟩) hHeld ?_ ?_
  rotate_left
  · rintro w' ⟨s0, s1, s2, s3⟩; go_simp; with_reducible rfl
  rotate_left
  · simp only [Act.put, zA, zB, zC, i64_w, i32_w]; rfl
  refine take_ (i := 3) (N := some 44) (v := ?_) (a' := ?_) (bl 10 11) rfl rfl (by as_aux_lemma => kernel_rfl) (fun _ _ _ h => h) (Or.inl ⟨by rfl, ?_⟩) hHeld ?_ ?_
  rotate_left
  · rintro w' ⟨s0, s1, s2, s3⟩; go_simp; with_reducible rfl
  rotate_left
  · simp only [Act.put, zA, zB, zC, i64_w, i32_w]; rfl
  refine take_ (i := 4) (N := some 45) (v := ?_) (a' := ?_) (bl 10 27) rfl rfl (by as_aux_lemma => kernel_rfl) (fun _ _ _ h => h) (Or.inl ⟨by rfl, ?_⟩) hHeld ?_ ?_
  rotate_left
  · rintro w' ⟨s0, s1, s2, s3⟩; go_simp; with_reducible rfl
  rotate_left
  · simp only [Act.put, zA, zB, zC, i64_w, i32_w]; rfl
  refine join_ (σ := Nat × Nat) 2 (bl 10 255) (fun sg => [(43, .agg #[.int .i32 e1, .int .i32 e2]), (46, .agg #[.int .i32 f1, .int .i32 f2]), (9, .pointer (some ⟨sg.1, 0, none⟩)), (10, .pointer (some ⟨sg.2, 0, none⟩))]) (fun sg w' => Bx w [(w.heap.size, a1, b1), (w.heap.size + 1, a2, b2), (g5, l1, l2), (g6, g1, g2), (g7, m1, m2), (g8, n1, n2), (sg.1, 0, 0), (sg.2, 0, 0)] w' ∧ w.heap.size + 1 < sg.1 ∧ g5 < sg.1 ∧ g6 < sg.1 ∧ g7 < sg.1 ∧ g8 < sg.1 ∧ w.heap.size + 1 < sg.2 ∧ g5 < sg.2 ∧ g6 < sg.2 ∧ g7 < sg.2 ∧ g8 < sg.2 ∧ sg.1 ≠ sg.2) ?_ ?_
  rotate_left
  · intro hCont
    as_aux_lemma =>
    refine three_ (i := 2) (j := 6) (k := 7) (Ni := some 43) (Nj := some 9) (Nk := some 10) (bl 10 31) (bl 10 91) (bl 10 155) rfl rfl rfl rfl rfl rfl (by as_aux_lemma => kernel_rfl) (by decide) (by decide) (by decide) (fun K hK => ?_) (fun K hK => ?_) (fun K hK => ?_)
    · skip
      refine goes_ Try.func38 (by as_aux_lemma => kernel_rfl) rfl #[.int .u8 16, .agg #[.int .i32 a1, .int .i32 b1], .agg #[.int .i32 a2, .int .i32 b2]] (by rfl) rfl rfl (by (try simp only [List.map_toArray, List.map_cons, List.map_nil]); first | done | rfl) ?_
      with_reducible refine (apply_c _ _ _ _ _ _ _ i_a1.out i_b1.out i_a2.out i_b2.out h16.out _).mono ?_
      rintro e vv2 ⟨rfl, hb⟩; refine ⟨_, rfl, ?_⟩
      replace HB := Aside0.mk (HB.out.step hb); clear hb
      refine hK.out _ _ ⟨HB.out.c0 0 rfl, HB.out.c1 0 rfl, HB.out.c0 1 rfl, HB.out.c1 1 rfl⟩ (fun hHeld => ?_)
      clear hK K
      refine norm_ (a' := ?_) ?_ ?_; rotate_left
      · show Act.put _ (some 43) _ = _; simp only [Act.put, zA, zB, zC, i64_w, i32_w]; rfl
      refine three_ (i := 5) (j := 6) (k := 7) (Ni := some 46) (Nj := some 9) (Nk := some 10) (bl 10 63) (bl 10 95) (bl 10 159) rfl rfl rfl rfl rfl rfl (by as_aux_lemma => kernel_rfl) (by decide) (by decide) (by decide) (fun K hK => ?_) (fun K hK => ?_) (fun K hK => ?_)
      · skip
        refine goes_ Try.func38 (by as_aux_lemma => kernel_rfl) rfl #[.int .u8 17, .agg #[.int .i32 a1, .int .i32 b1], .agg #[.int .i32 a2, .int .i32 b2]] (by rfl) rfl rfl (by (try simp only [List.map_toArray, List.map_cons, List.map_nil]); first | done | rfl) ?_
        with_reducible refine (apply_c _ _ _ _ _ _ _ i_a1.out i_b1.out i_a2.out i_b2.out h17.out _).mono ?_
        rintro e vv5 ⟨rfl, hb⟩; refine ⟨_, rfl, ?_⟩
        replace HB := Aside0.mk (HB.out.step hb); clear hb
        refine hK.out _ _ ⟨HB.out.c0 0 rfl, HB.out.c1 0 rfl, HB.out.c0 1 rfl, HB.out.c1 1 rfl⟩ (fun hHeld => ?_)
        clear hK K
        refine norm_ (a' := ?_) ?_ ?_; rotate_left
        · show Act.put _ (some 46) _ = _; simp only [Act.put, zA, zB, zC, i64_w, i32_w]; rfl
        refine two_ (i := 6) (j := 7) (Ni := some 9) (Nj := some 10) (bl 10 127) (bl 10 191) rfl rfl rfl rfl (by as_aux_lemma => kernel_rfl) (by decide) (by decide) (fun K hK => ?_) (fun K hK => ?_)
        · skip
          refine value_ (w1 := ?_) (v := ?_) (by rfl) rfl ?_ ?_
          rotate_left 2
          · go_simp
            constructor
            · rfl
            · rfl
          have hltg9_1 := blk_lt (HB.out.bk 1 rfl)
          have hltg9_2 := blk_lt (HB.out.bk 2 rfl)
          have hltg9_3 := blk_lt (HB.out.bk 3 rfl)
          have hltg9_4 := blk_lt (HB.out.bk 4 rfl)
          have hltg9_5 := blk_lt (HB.out.bk 5 rfl)
          replace HB := Aside0.mk (show Bx w [(w.heap.size, a1, b1), (w.heap.size + 1, a2, b2), (g5, l1, l2), (g6, g1, g2), (g7, m1, m2), (g8, n1, n2), (vv5.heap.size, 0, 0)] _ from HB.out.box rfl 0 0)
          generalize World.alloc vv5 _ = vv6 at HB ⊢
          generalize vv5.heap.size = g9 at HB hltg9_1 hltg9_2 hltg9_3 hltg9_4 hltg9_5 ⊢
          refine hK.out _ _ ⟨HB.out.c0 0 rfl, HB.out.c1 0 rfl, HB.out.c0 1 rfl, HB.out.c1 1 rfl⟩ (fun hHeld => ?_)
          clear hK K
          refine norm_ (a' := ?_) ?_ ?_; rotate_left
          · show Act.put _ (some 9) _ = _; simp only [Act.put, zA, zB, zC, i64_w, i32_w]; rfl
          refine one_ (i := 7) (N := some 10) (bl 10 255) rfl rfl (by as_aux_lemma => kernel_rfl) (by decide) (fun K hK => ?_)
          refine value_ (w1 := ?_) (v := ?_) (by rfl) rfl ?_ ?_
          rotate_left 2
          · go_simp
            constructor
            · rfl
            · rfl
          have hltg10_1 := blk_lt (HB.out.bk 1 rfl)
          have hltg10_2 := blk_lt (HB.out.bk 2 rfl)
          have hltg10_3 := blk_lt (HB.out.bk 3 rfl)
          have hltg10_4 := blk_lt (HB.out.bk 4 rfl)
          have hltg10_5 := blk_lt (HB.out.bk 5 rfl)
          have hltg10_6 := blk_lt (HB.out.bk 6 rfl)
          replace HB := Aside0.mk (show Bx w [(w.heap.size, a1, b1), (w.heap.size + 1, a2, b2), (g5, l1, l2), (g6, g1, g2), (g7, m1, m2), (g8, n1, n2), (g9, 0, 0), (vv6.heap.size, 0, 0)] _ from HB.out.box rfl 0 0)
          generalize World.alloc vv6 _ = vv7 at HB ⊢
          generalize vv6.heap.size = g10 at HB hltg10_1 hltg10_2 hltg10_3 hltg10_4 hltg10_5 hltg10_6 ⊢
          refine hK.out _ _ ⟨HB.out.c0 0 rfl, HB.out.c1 0 rfl, HB.out.c0 1 rfl, HB.out.c1 1 rfl⟩ (fun hHeld => ?_)
          clear hK K
          refine norm_ (a' := ?_) ?_ ?_; rotate_left
          · show Act.put _ (some 10) _ = _; simp only [Act.put, zA, zB, zC, i64_w, i32_w]; rfl
          exact norm_ (by simp only [putAll, Act.put, zA, zB, zC]) (hCont (g9, g10) _ ⟨HB.out, by omega, by omega, by omega, by omega, by omega, by omega, by omega, by omega, by omega, by omega, by omega⟩)
        · skip
          refine value_ (w1 := ?_) (v := ?_) (by rfl) rfl ?_ ?_
          rotate_left 2
          · go_simp
            constructor
            · rfl
            · rfl
          have hltg10_1 := blk_lt (HB.out.bk 1 rfl)
          have hltg10_2 := blk_lt (HB.out.bk 2 rfl)
          have hltg10_3 := blk_lt (HB.out.bk 3 rfl)
          have hltg10_4 := blk_lt (HB.out.bk 4 rfl)
          have hltg10_5 := blk_lt (HB.out.bk 5 rfl)
          replace HB := Aside0.mk (show Bx w [(w.heap.size, a1, b1), (w.heap.size + 1, a2, b2), (g5, l1, l2), (g6, g1, g2), (g7, m1, m2), (g8, n1, n2), (vv5.heap.size, 0, 0)] _ from HB.out.box rfl 0 0)
          generalize World.alloc vv5 _ = vv7 at HB ⊢
          generalize vv5.heap.size = g10 at HB hltg10_1 hltg10_2 hltg10_3 hltg10_4 hltg10_5 ⊢
          refine hK.out _ _ ⟨HB.out.c0 0 rfl, HB.out.c1 0 rfl, HB.out.c0 1 rfl, HB.out.c1 1 rfl⟩ (fun hHeld => ?_)
          clear hK K
          refine norm_ (a' := ?_) ?_ ?_; rotate_left
          · show Act.put _ (some 10) _ = _; simp only [Act.put, zA, zB, zC, i64_w, i32_w]; rfl
          refine one_ (i := 6) (N := some 9) (bl 10 255) rfl rfl (by as_aux_lemma => kernel_rfl) (by decide) (fun K hK => ?_)
          refine value_ (w1 := ?_) (v := ?_) (by rfl) rfl ?_ ?_
          rotate_left 2
          · go_simp
            constructor
            · rfl
            · rfl
          have hltg9_1 := blk_lt (HB.out.bk 1 rfl)
          have hltg9_2 := blk_lt (HB.out.bk 2 rfl)
          have hltg9_3 := blk_lt (HB.out.bk 3 rfl)
          have hltg9_4 := blk_lt (HB.out.bk 4 rfl)
          have hltg9_5 := blk_lt (HB.out.bk 5 rfl)
          have hltg9_6 := blk_lt (HB.out.bk 6 rfl)
          replace HB := Aside0.mk (show Bx w [(w.heap.size, a1, b1), (w.heap.size + 1, a2, b2), (g5, l1, l2), (g6, g1, g2), (g7, m1, m2), (g8, n1, n2), (g10, 0, 0), (vv7.heap.size, 0, 0)] _ from HB.out.box rfl 0 0)
          generalize World.alloc vv7 _ = vv6 at HB ⊢
          generalize vv7.heap.size = g9 at HB hltg9_1 hltg9_2 hltg9_3 hltg9_4 hltg9_5 hltg9_6 ⊢
          refine hK.out _ _ ⟨HB.out.c0 0 rfl, HB.out.c1 0 rfl, HB.out.c0 1 rfl, HB.out.c1 1 rfl⟩ (fun hHeld => ?_)
          clear hK K
          refine norm_ (a' := ?_) ?_ ?_; rotate_left
          · show Act.put _ (some 9) _ = _; simp only [Act.put, zA, zB, zC, i64_w, i32_w]; rfl
          exact norm_ (by simp only [putAll, Act.put, zA, zB, zC]) (hCont (g9, g10) _ ⟨Bx.swap (L := [(w.heap.size, a1, b1), (w.heap.size + 1, a2, b2), (g5, l1, l2), (g6, g1, g2), (g7, m1, m2), (g8, n1, n2)]) (g10, 0, 0) (g9, 0, 0) HB.out, by omega, by omega, by omega, by omega, by omega, by omega, by omega, by omega, by omega, by omega, by omega⟩)
      · skip
        refine value_ (w1 := ?_) (v := ?_) (by rfl) rfl ?_ ?_
        rotate_left 2
        · go_simp
          constructor
          · rfl
          · rfl
        have hltg9_1 := blk_lt (HB.out.bk 1 rfl)
        have hltg9_2 := blk_lt (HB.out.bk 2 rfl)
        have hltg9_3 := blk_lt (HB.out.bk 3 rfl)
        have hltg9_4 := blk_lt (HB.out.bk 4 rfl)
        have hltg9_5 := blk_lt (HB.out.bk 5 rfl)
        replace HB := Aside0.mk (show Bx w [(w.heap.size, a1, b1), (w.heap.size + 1, a2, b2), (g5, l1, l2), (g6, g1, g2), (g7, m1, m2), (g8, n1, n2), (vv2.heap.size, 0, 0)] _ from HB.out.box rfl 0 0)
        generalize World.alloc vv2 _ = vv6 at HB ⊢
        generalize vv2.heap.size = g9 at HB hltg9_1 hltg9_2 hltg9_3 hltg9_4 hltg9_5 ⊢
        refine hK.out _ _ ⟨HB.out.c0 0 rfl, HB.out.c1 0 rfl, HB.out.c0 1 rfl, HB.out.c1 1 rfl⟩ (fun hHeld => ?_)
        clear hK K
        refine norm_ (a' := ?_) ?_ ?_; rotate_left
        · show Act.put _ (some 9) _ = _; simp only [Act.put, zA, zB, zC, i64_w, i32_w]; rfl
        refine two_ (i := 5) (j := 7) (Ni := some 46) (Nj := some 10) (bl 10 127) (bl 10 223) rfl rfl rfl rfl (by as_aux_lemma => kernel_rfl) (by decide) (by decide) (fun K hK => ?_) (fun K hK => ?_)
        · skip
          refine goes_ Try.func38 (by as_aux_lemma => kernel_rfl) rfl #[.int .u8 17, .agg #[.int .i32 a1, .int .i32 b1], .agg #[.int .i32 a2, .int .i32 b2]] (by rfl) rfl rfl (by (try simp only [List.map_toArray, List.map_cons, List.map_nil]); first | done | rfl) ?_
          with_reducible refine (apply_c _ _ _ _ _ _ _ i_a1.out i_b1.out i_a2.out i_b2.out h17.out _).mono ?_
          rintro e vv5 ⟨rfl, hb⟩; refine ⟨_, rfl, ?_⟩
          replace HB := Aside0.mk (HB.out.step hb); clear hb
          refine hK.out _ _ ⟨HB.out.c0 0 rfl, HB.out.c1 0 rfl, HB.out.c0 1 rfl, HB.out.c1 1 rfl⟩ (fun hHeld => ?_)
          clear hK K
          refine norm_ (a' := ?_) ?_ ?_; rotate_left
          · show Act.put _ (some 46) _ = _; simp only [Act.put, zA, zB, zC, i64_w, i32_w]; rfl
          refine one_ (i := 7) (N := some 10) (bl 10 255) rfl rfl (by as_aux_lemma => kernel_rfl) (by decide) (fun K hK => ?_)
          refine value_ (w1 := ?_) (v := ?_) (by rfl) rfl ?_ ?_
          rotate_left 2
          · go_simp
            constructor
            · rfl
            · rfl
          have hltg10_1 := blk_lt (HB.out.bk 1 rfl)
          have hltg10_2 := blk_lt (HB.out.bk 2 rfl)
          have hltg10_3 := blk_lt (HB.out.bk 3 rfl)
          have hltg10_4 := blk_lt (HB.out.bk 4 rfl)
          have hltg10_5 := blk_lt (HB.out.bk 5 rfl)
          have hltg10_6 := blk_lt (HB.out.bk 6 rfl)
          replace HB := Aside0.mk (show Bx w [(w.heap.size, a1, b1), (w.heap.size + 1, a2, b2), (g5, l1, l2), (g6, g1, g2), (g7, m1, m2), (g8, n1, n2), (g9, 0, 0), (vv5.heap.size, 0, 0)] _ from HB.out.box rfl 0 0)
          generalize World.alloc vv5 _ = vv7 at HB ⊢
          generalize vv5.heap.size = g10 at HB hltg10_1 hltg10_2 hltg10_3 hltg10_4 hltg10_5 hltg10_6 ⊢
          refine hK.out _ _ ⟨HB.out.c0 0 rfl, HB.out.c1 0 rfl, HB.out.c0 1 rfl, HB.out.c1 1 rfl⟩ (fun hHeld => ?_)
          clear hK K
          refine norm_ (a' := ?_) ?_ ?_; rotate_left
          · show Act.put _ (some 10) _ = _; simp only [Act.put, zA, zB, zC, i64_w, i32_w]; rfl
          exact norm_ (by simp only [putAll, Act.put, zA, zB, zC]) (hCont (g9, g10) _ ⟨HB.out, by omega, by omega, by omega, by omega, by omega, by omega, by omega, by omega, by omega, by omega, by omega⟩)
        · skip
          refine value_ (w1 := ?_) (v := ?_) (by rfl) rfl ?_ ?_
          rotate_left 2
          · go_simp
            constructor
            · rfl
            · rfl
          have hltg10_1 := blk_lt (HB.out.bk 1 rfl)
          have hltg10_2 := blk_lt (HB.out.bk 2 rfl)
          have hltg10_3 := blk_lt (HB.out.bk 3 rfl)
          have hltg10_4 := blk_lt (HB.out.bk 4 rfl)
          have hltg10_5 := blk_lt (HB.out.bk 5 rfl)
          have hltg10_6 := blk_lt (HB.out.bk 6 rfl)
          replace HB := Aside0.mk (show Bx w [(w.heap.size, a1, b1), (w.heap.size + 1, a2, b2), (g5, l1, l2), (g6, g1, g2), (g7, m1, m2), (g8, n1, n2), (g9, 0, 0), (vv6.heap.size, 0, 0)] _ from HB.out.box rfl 0 0)
          generalize World.alloc vv6 _ = vv7 at HB ⊢
          generalize vv6.heap.size = g10 at HB hltg10_1 hltg10_2 hltg10_3 hltg10_4 hltg10_5 hltg10_6 ⊢
          refine hK.out _ _ ⟨HB.out.c0 0 rfl, HB.out.c1 0 rfl, HB.out.c0 1 rfl, HB.out.c1 1 rfl⟩ (fun hHeld => ?_)
          clear hK K
          refine norm_ (a' := ?_) ?_ ?_; rotate_left
          · show Act.put _ (some 10) _ = _; simp only [Act.put, zA, zB, zC, i64_w, i32_w]; rfl
          refine one_ (i := 5) (N := some 46) (bl 10 255) rfl rfl (by as_aux_lemma => kernel_rfl) (by decide) (fun K hK => ?_)
          refine goes_ Try.func38 (by as_aux_lemma => kernel_rfl) rfl #[.int .u8 17, .agg #[.int .i32 a1, .int .i32 b1], .agg #[.int .i32 a2, .int .i32 b2]] (by rfl) rfl rfl (by (try simp only [List.map_toArray, List.map_cons, List.map_nil]); first | done | rfl) ?_
          with_reducible refine (apply_c _ _ _ _ _ _ _ i_a1.out i_b1.out i_a2.out i_b2.out h17.out _).mono ?_
          rintro e vv5 ⟨rfl, hb⟩; refine ⟨_, rfl, ?_⟩
          replace HB := Aside0.mk (HB.out.step hb); clear hb
          refine hK.out _ _ ⟨HB.out.c0 0 rfl, HB.out.c1 0 rfl, HB.out.c0 1 rfl, HB.out.c1 1 rfl⟩ (fun hHeld => ?_)
          clear hK K
          refine norm_ (a' := ?_) ?_ ?_; rotate_left
          · show Act.put _ (some 46) _ = _; simp only [Act.put, zA, zB, zC, i64_w, i32_w]; rfl
          exact norm_ (by simp only [putAll, Act.put, zA, zB, zC]) (hCont (g9, g10) _ ⟨HB.out, by omega, by omega, by omega, by omega, by omega, by omega, by omega, by omega, by omega, by omega, by omega⟩)
      · skip
        refine value_ (w1 := ?_) (v := ?_) (by rfl) rfl ?_ ?_
        rotate_left 2
        · go_simp
          constructor
          · rfl
          · rfl
        have hltg10_1 := blk_lt (HB.out.bk 1 rfl)
        have hltg10_2 := blk_lt (HB.out.bk 2 rfl)
        have hltg10_3 := blk_lt (HB.out.bk 3 rfl)
        have hltg10_4 := blk_lt (HB.out.bk 4 rfl)
        have hltg10_5 := blk_lt (HB.out.bk 5 rfl)
        replace HB := Aside0.mk (show Bx w [(w.heap.size, a1, b1), (w.heap.size + 1, a2, b2), (g5, l1, l2), (g6, g1, g2), (g7, m1, m2), (g8, n1, n2), (vv2.heap.size, 0, 0)] _ from HB.out.box rfl 0 0)
        generalize World.alloc vv2 _ = vv7 at HB ⊢
        generalize vv2.heap.size = g10 at HB hltg10_1 hltg10_2 hltg10_3 hltg10_4 hltg10_5 ⊢
        refine hK.out _ _ ⟨HB.out.c0 0 rfl, HB.out.c1 0 rfl, HB.out.c0 1 rfl, HB.out.c1 1 rfl⟩ (fun hHeld => ?_)
        clear hK K
        refine norm_ (a' := ?_) ?_ ?_; rotate_left
        · show Act.put _ (some 10) _ = _; simp only [Act.put, zA, zB, zC, i64_w, i32_w]; rfl
        refine two_ (i := 5) (j := 6) (Ni := some 46) (Nj := some 9) (bl 10 191) (bl 10 223) rfl rfl rfl rfl (by as_aux_lemma => kernel_rfl) (by decide) (by decide) (fun K hK => ?_) (fun K hK => ?_)
        · skip
          refine goes_ Try.func38 (by as_aux_lemma => kernel_rfl) rfl #[.int .u8 17, .agg #[.int .i32 a1, .int .i32 b1], .agg #[.int .i32 a2, .int .i32 b2]] (by rfl) rfl rfl (by (try simp only [List.map_toArray, List.map_cons, List.map_nil]); first | done | rfl) ?_
          with_reducible refine (apply_c _ _ _ _ _ _ _ i_a1.out i_b1.out i_a2.out i_b2.out h17.out _).mono ?_
          rintro e vv5 ⟨rfl, hb⟩; refine ⟨_, rfl, ?_⟩
          replace HB := Aside0.mk (HB.out.step hb); clear hb
          refine hK.out _ _ ⟨HB.out.c0 0 rfl, HB.out.c1 0 rfl, HB.out.c0 1 rfl, HB.out.c1 1 rfl⟩ (fun hHeld => ?_)
          clear hK K
          refine norm_ (a' := ?_) ?_ ?_; rotate_left
          · show Act.put _ (some 46) _ = _; simp only [Act.put, zA, zB, zC, i64_w, i32_w]; rfl
          refine one_ (i := 6) (N := some 9) (bl 10 255) rfl rfl (by as_aux_lemma => kernel_rfl) (by decide) (fun K hK => ?_)
          refine value_ (w1 := ?_) (v := ?_) (by rfl) rfl ?_ ?_
          rotate_left 2
          · go_simp
            constructor
            · rfl
            · rfl
          have hltg9_1 := blk_lt (HB.out.bk 1 rfl)
          have hltg9_2 := blk_lt (HB.out.bk 2 rfl)
          have hltg9_3 := blk_lt (HB.out.bk 3 rfl)
          have hltg9_4 := blk_lt (HB.out.bk 4 rfl)
          have hltg9_5 := blk_lt (HB.out.bk 5 rfl)
          have hltg9_6 := blk_lt (HB.out.bk 6 rfl)
          replace HB := Aside0.mk (show Bx w [(w.heap.size, a1, b1), (w.heap.size + 1, a2, b2), (g5, l1, l2), (g6, g1, g2), (g7, m1, m2), (g8, n1, n2), (g10, 0, 0), (vv5.heap.size, 0, 0)] _ from HB.out.box rfl 0 0)
          generalize World.alloc vv5 _ = vv6 at HB ⊢
          generalize vv5.heap.size = g9 at HB hltg9_1 hltg9_2 hltg9_3 hltg9_4 hltg9_5 hltg9_6 ⊢
          refine hK.out _ _ ⟨HB.out.c0 0 rfl, HB.out.c1 0 rfl, HB.out.c0 1 rfl, HB.out.c1 1 rfl⟩ (fun hHeld => ?_)
          clear hK K
          refine norm_ (a' := ?_) ?_ ?_; rotate_left
          · show Act.put _ (some 9) _ = _; simp only [Act.put, zA, zB, zC, i64_w, i32_w]; rfl
          exact norm_ (by simp only [putAll, Act.put, zA, zB, zC]) (hCont (g9, g10) _ ⟨Bx.swap (L := [(w.heap.size, a1, b1), (w.heap.size + 1, a2, b2), (g5, l1, l2), (g6, g1, g2), (g7, m1, m2), (g8, n1, n2)]) (g10, 0, 0) (g9, 0, 0) HB.out, by omega, by omega, by omega, by omega, by omega, by omega, by omega, by omega, by omega, by omega, by omega⟩)
        · skip
          refine value_ (w1 := ?_) (v := ?_) (by rfl) rfl ?_ ?_
          rotate_left 2
          · go_simp
            constructor
            · rfl
            · rfl
          have hltg9_1 := blk_lt (HB.out.bk 1 rfl)
          have hltg9_2 := blk_lt (HB.out.bk 2 rfl)
          have hltg9_3 := blk_lt (HB.out.bk 3 rfl)
          have hltg9_4 := blk_lt (HB.out.bk 4 rfl)
          have hltg9_5 := blk_lt (HB.out.bk 5 rfl)
          have hltg9_6 := blk_lt (HB.out.bk 6 rfl)
          replace HB := Aside0.mk (show Bx w [(w.heap.size, a1, b1), (w.heap.size + 1, a2, b2), (g5, l1, l2), (g6, g1, g2), (g7, m1, m2), (g8, n1, n2), (g10, 0, 0), (vv7.heap.size, 0, 0)] _ from HB.out.box rfl 0 0)
          generalize World.alloc vv7 _ = vv6 at HB ⊢
          generalize vv7.heap.size = g9 at HB hltg9_1 hltg9_2 hltg9_3 hltg9_4 hltg9_5 hltg9_6 ⊢
          refine hK.out _ _ ⟨HB.out.c0 0 rfl, HB.out.c1 0 rfl, HB.out.c0 1 rfl, HB.out.c1 1 rfl⟩ (fun hHeld => ?_)
          clear hK K
          refine norm_ (a' := ?_) ?_ ?_; rotate_left
          · show Act.put _ (some 9) _ = _; simp only [Act.put, zA, zB, zC, i64_w, i32_w]; rfl
          refine one_ (i := 5) (N := some 46) (bl 10 255) rfl rfl (by as_aux_lemma => kernel_rfl) (by decide) (fun K hK => ?_)
          refine goes_ Try.func38 (by as_aux_lemma => kernel_rfl) rfl #[.int .u8 17, .agg #[.int .i32 a1, .int .i32 b1], .agg #[.int .i32 a2, .int .i32 b2]] (by rfl) rfl rfl (by (try simp only [List.map_toArray, List.map_cons, List.map_nil]); first | done | rfl) ?_
          with_reducible refine (apply_c _ _ _ _ _ _ _ i_a1.out i_b1.out i_a2.out i_b2.out h17.out _).mono ?_
          rintro e vv5 ⟨rfl, hb⟩; refine ⟨_, rfl, ?_⟩
          replace HB := Aside0.mk (HB.out.step hb); clear hb
          refine hK.out _ _ ⟨HB.out.c0 0 rfl, HB.out.c1 0 rfl, HB.out.c0 1 rfl, HB.out.c1 1 rfl⟩ (fun hHeld => ?_)
          clear hK K
          refine norm_ (a' := ?_) ?_ ?_; rotate_left
          · show Act.put _ (some 46) _ = _; simp only [Act.put, zA, zB, zC, i64_w, i32_w]; rfl
          exact norm_ (by simp only [putAll, Act.put, zA, zB, zC]) (hCont (g9, g10) _ ⟨Bx.swap (L := [(w.heap.size, a1, b1), (w.heap.size + 1, a2, b2), (g5, l1, l2), (g6, g1, g2), (g7, m1, m2), (g8, n1, n2)]) (g10, 0, 0) (g9, 0, 0) HB.out, by omega, by omega, by omega, by omega, by omega, by omega, by omega, by omega, by omega, by omega, by omega⟩)
    · skip
      refine value_ (w1 := ?_) (v := ?_) (by rfl) rfl ?_ ?_
      rotate_left 2
      · go_simp
        constructor
        · rfl
        · rfl
      have hltg9_1 := blk_lt (HB.out.bk 1 rfl)
      have hltg9_2 := blk_lt (HB.out.bk 2 rfl)
      have hltg9_3 := blk_lt (HB.out.bk 3 rfl)
      have hltg9_4 := blk_lt (HB.out.bk 4 rfl)
      have hltg9_5 := blk_lt (HB.out.bk 5 rfl)
      replace HB := Aside0.mk (show Bx w [(w.heap.size, a1, b1), (w.heap.size + 1, a2, b2), (g5, l1, l2), (g6, g1, g2), (g7, m1, m2), (g8, n1, n2), (wv10.heap.size, 0, 0)] _ from HB.out.box rfl 0 0)
      generalize World.alloc wv10 _ = vv6 at HB ⊢
      generalize wv10.heap.size = g9 at HB hltg9_1 hltg9_2 hltg9_3 hltg9_4 hltg9_5 ⊢
      refine hK.out _ _ ⟨HB.out.c0 0 rfl, HB.out.c1 0 rfl, HB.out.c0 1 rfl, HB.out.c1 1 rfl⟩ (fun hHeld => ?_)
      clear hK K
      refine norm_ (a' := ?_) ?_ ?_; rotate_left
      · show Act.put _ (some 9) _ = _; simp only [Act.put, zA, zB, zC, i64_w, i32_w]; rfl
      refine two_ (i := 2) (j := 7) (Ni := some 43) (Nj := some 10) (bl 10 95) (bl 10 219) rfl rfl rfl rfl (by as_aux_lemma => kernel_rfl) (by decide) (by decide) (fun K hK => ?_) (fun K hK => ?_)
      · skip
        refine goes_ Try.func38 (by as_aux_lemma => kernel_rfl) rfl #[.int .u8 16, .agg #[.int .i32 a1, .int .i32 b1], .agg #[.int .i32 a2, .int .i32 b2]] (by rfl) rfl rfl (by (try simp only [List.map_toArray, List.map_cons, List.map_nil]); first | done | rfl) ?_
        with_reducible refine (apply_c _ _ _ _ _ _ _ i_a1.out i_b1.out i_a2.out i_b2.out h16.out _).mono ?_
        rintro e vv2 ⟨rfl, hb⟩; refine ⟨_, rfl, ?_⟩
        replace HB := Aside0.mk (HB.out.step hb); clear hb
        refine hK.out _ _ ⟨HB.out.c0 0 rfl, HB.out.c1 0 rfl, HB.out.c0 1 rfl, HB.out.c1 1 rfl⟩ (fun hHeld => ?_)
        clear hK K
        refine norm_ (a' := ?_) ?_ ?_; rotate_left
        · show Act.put _ (some 43) _ = _; simp only [Act.put, zA, zB, zC, i64_w, i32_w]; rfl
        refine two_ (i := 5) (j := 7) (Ni := some 46) (Nj := some 10) (bl 10 127) (bl 10 223) rfl rfl rfl rfl (by as_aux_lemma => kernel_rfl) (by decide) (by decide) (fun K hK => ?_) (fun K hK => ?_)
        · skip
          refine goes_ Try.func38 (by as_aux_lemma => kernel_rfl) rfl #[.int .u8 17, .agg #[.int .i32 a1, .int .i32 b1], .agg #[.int .i32 a2, .int .i32 b2]] (by rfl) rfl rfl (by (try simp only [List.map_toArray, List.map_cons, List.map_nil]); first | done | rfl) ?_
          with_reducible refine (apply_c _ _ _ _ _ _ _ i_a1.out i_b1.out i_a2.out i_b2.out h17.out _).mono ?_
          rintro e vv5 ⟨rfl, hb⟩; refine ⟨_, rfl, ?_⟩
          replace HB := Aside0.mk (HB.out.step hb); clear hb
          refine hK.out _ _ ⟨HB.out.c0 0 rfl, HB.out.c1 0 rfl, HB.out.c0 1 rfl, HB.out.c1 1 rfl⟩ (fun hHeld => ?_)
          clear hK K
          refine norm_ (a' := ?_) ?_ ?_; rotate_left
          · show Act.put _ (some 46) _ = _; simp only [Act.put, zA, zB, zC, i64_w, i32_w]; rfl
          refine one_ (i := 7) (N := some 10) (bl 10 255) rfl rfl (by as_aux_lemma => kernel_rfl) (by decide) (fun K hK => ?_)
          refine value_ (w1 := ?_) (v := ?_) (by rfl) rfl ?_ ?_
          rotate_left 2
          · go_simp
            constructor
            · rfl
            · rfl
          have hltg10_1 := blk_lt (HB.out.bk 1 rfl)
          have hltg10_2 := blk_lt (HB.out.bk 2 rfl)
          have hltg10_3 := blk_lt (HB.out.bk 3 rfl)
          have hltg10_4 := blk_lt (HB.out.bk 4 rfl)
          have hltg10_5 := blk_lt (HB.out.bk 5 rfl)
          have hltg10_6 := blk_lt (HB.out.bk 6 rfl)
          replace HB := Aside0.mk (show Bx w [(w.heap.size, a1, b1), (w.heap.size + 1, a2, b2), (g5, l1, l2), (g6, g1, g2), (g7, m1, m2), (g8, n1, n2), (g9, 0, 0), (vv5.heap.size, 0, 0)] _ from HB.out.box rfl 0 0)
          generalize World.alloc vv5 _ = vv7 at HB ⊢
          generalize vv5.heap.size = g10 at HB hltg10_1 hltg10_2 hltg10_3 hltg10_4 hltg10_5 hltg10_6 ⊢
          refine hK.out _ _ ⟨HB.out.c0 0 rfl, HB.out.c1 0 rfl, HB.out.c0 1 rfl, HB.out.c1 1 rfl⟩ (fun hHeld => ?_)
          clear hK K
          refine norm_ (a' := ?_) ?_ ?_; rotate_left
          · show Act.put _ (some 10) _ = _; simp only [Act.put, zA, zB, zC, i64_w, i32_w]; rfl
          exact norm_ (by simp only [putAll, Act.put, zA, zB, zC]) (hCont (g9, g10) _ ⟨HB.out, by omega, by omega, by omega, by omega, by omega, by omega, by omega, by omega, by omega, by omega, by omega⟩)
        · skip
          refine value_ (w1 := ?_) (v := ?_) (by rfl) rfl ?_ ?_
          rotate_left 2
          · go_simp
            constructor
            · rfl
            · rfl
          have hltg10_1 := blk_lt (HB.out.bk 1 rfl)
          have hltg10_2 := blk_lt (HB.out.bk 2 rfl)
          have hltg10_3 := blk_lt (HB.out.bk 3 rfl)
          have hltg10_4 := blk_lt (HB.out.bk 4 rfl)
          have hltg10_5 := blk_lt (HB.out.bk 5 rfl)
          have hltg10_6 := blk_lt (HB.out.bk 6 rfl)
          replace HB := Aside0.mk (show Bx w [(w.heap.size, a1, b1), (w.heap.size + 1, a2, b2), (g5, l1, l2), (g6, g1, g2), (g7, m1, m2), (g8, n1, n2), (g9, 0, 0), (vv2.heap.size, 0, 0)] _ from HB.out.box rfl 0 0)
          generalize World.alloc vv2 _ = vv7 at HB ⊢
          generalize vv2.heap.size = g10 at HB hltg10_1 hltg10_2 hltg10_3 hltg10_4 hltg10_5 hltg10_6 ⊢
          refine hK.out _ _ ⟨HB.out.c0 0 rfl, HB.out.c1 0 rfl, HB.out.c0 1 rfl, HB.out.c1 1 rfl⟩ (fun hHeld => ?_)
          clear hK K
          refine norm_ (a' := ?_) ?_ ?_; rotate_left
          · show Act.put _ (some 10) _ = _; simp only [Act.put, zA, zB, zC, i64_w, i32_w]; rfl
          refine one_ (i := 5) (N := some 46) (bl 10 255) rfl rfl (by as_aux_lemma => kernel_rfl) (by decide) (fun K hK => ?_)
          refine goes_ Try.func38 (by as_aux_lemma => kernel_rfl) rfl #[.int .u8 17, .agg #[.int .i32 a1, .int .i32 b1], .agg #[.int .i32 a2, .int .i32 b2]] (by rfl) rfl rfl (by (try simp only [List.map_toArray, List.map_cons, List.map_nil]); first | done | rfl) ?_
          with_reducible refine (apply_c _ _ _ _ _ _ _ i_a1.out i_b1.out i_a2.out i_b2.out h17.out _).mono ?_
          rintro e vv5 ⟨rfl, hb⟩; refine ⟨_, rfl, ?_⟩
          replace HB := Aside0.mk (HB.out.step hb); clear hb
          refine hK.out _ _ ⟨HB.out.c0 0 rfl, HB.out.c1 0 rfl, HB.out.c0 1 rfl, HB.out.c1 1 rfl⟩ (fun hHeld => ?_)
          clear hK K
          refine norm_ (a' := ?_) ?_ ?_; rotate_left
          · show Act.put _ (some 46) _ = _; simp only [Act.put, zA, zB, zC, i64_w, i32_w]; rfl
          exact norm_ (by simp only [putAll, Act.put, zA, zB, zC]) (hCont (g9, g10) _ ⟨HB.out, by omega, by omega, by omega, by omega, by omega, by omega, by omega, by omega, by omega, by omega, by omega⟩)
      · skip
        refine value_ (w1 := ?_) (v := ?_) (by rfl) rfl ?_ ?_
        rotate_left 2
        · go_simp
          constructor
          · rfl
          · rfl
        have hltg10_1 := blk_lt (HB.out.bk 1 rfl)
        have hltg10_2 := blk_lt (HB.out.bk 2 rfl)
        have hltg10_3 := blk_lt (HB.out.bk 3 rfl)
        have hltg10_4 := blk_lt (HB.out.bk 4 rfl)
        have hltg10_5 := blk_lt (HB.out.bk 5 rfl)
        have hltg10_6 := blk_lt (HB.out.bk 6 rfl)
        replace HB := Aside0.mk (show Bx w [(w.heap.size, a1, b1), (w.heap.size + 1, a2, b2), (g5, l1, l2), (g6, g1, g2), (g7, m1, m2), (g8, n1, n2), (g9, 0, 0), (vv6.heap.size, 0, 0)] _ from HB.out.box rfl 0 0)
        generalize World.alloc vv6 _ = vv7 at HB ⊢
        generalize vv6.heap.size = g10 at HB hltg10_1 hltg10_2 hltg10_3 hltg10_4 hltg10_5 hltg10_6 ⊢
        refine hK.out _ _ ⟨HB.out.c0 0 rfl, HB.out.c1 0 rfl, HB.out.c0 1 rfl, HB.out.c1 1 rfl⟩ (fun hHeld => ?_)
        clear hK K
        refine norm_ (a' := ?_) ?_ ?_; rotate_left
        · show Act.put _ (some 10) _ = _; simp only [Act.put, zA, zB, zC, i64_w, i32_w]; rfl
        refine one_ (i := 2) (N := some 43) (bl 10 223) rfl rfl (by as_aux_lemma => kernel_rfl) (by decide) (fun K hK => ?_)
        refine goes_ Try.func38 (by as_aux_lemma => kernel_rfl) rfl #[.int .u8 16, .agg #[.int .i32 a1, .int .i32 b1], .agg #[.int .i32 a2, .int .i32 b2]] (by rfl) rfl rfl (by (try simp only [List.map_toArray, List.map_cons, List.map_nil]); first | done | rfl) ?_
        with_reducible refine (apply_c _ _ _ _ _ _ _ i_a1.out i_b1.out i_a2.out i_b2.out h16.out _).mono ?_
        rintro e vv2 ⟨rfl, hb⟩; refine ⟨_, rfl, ?_⟩
        replace HB := Aside0.mk (HB.out.step hb); clear hb
        refine hK.out _ _ ⟨HB.out.c0 0 rfl, HB.out.c1 0 rfl, HB.out.c0 1 rfl, HB.out.c1 1 rfl⟩ (fun hHeld => ?_)
        clear hK K
        refine norm_ (a' := ?_) ?_ ?_; rotate_left
        · show Act.put _ (some 43) _ = _; simp only [Act.put, zA, zB, zC, i64_w, i32_w]; rfl
        refine one_ (i := 5) (N := some 46) (bl 10 255) rfl rfl (by as_aux_lemma => kernel_rfl) (by decide) (fun K hK => ?_)
        refine goes_ Try.func38 (by as_aux_lemma => kernel_rfl) rfl #[.int .u8 17, .agg #[.int .i32 a1, .int .i32 b1], .agg #[.int .i32 a2, .int .i32 b2]] (by rfl) rfl rfl (by (try simp only [List.map_toArray, List.map_cons, List.map_nil]); first | done | rfl) ?_
        with_reducible refine (apply_c _ _ _ _ _ _ _ i_a1.out i_b1.out i_a2.out i_b2.out h17.out _).mono ?_
        rintro e vv5 ⟨rfl, hb⟩; refine ⟨_, rfl, ?_⟩
        replace HB := Aside0.mk (HB.out.step hb); clear hb
        refine hK.out _ _ ⟨HB.out.c0 0 rfl, HB.out.c1 0 rfl, HB.out.c0 1 rfl, HB.out.c1 1 rfl⟩ (fun hHeld => ?_)
        clear hK K
        refine norm_ (a' := ?_) ?_ ?_; rotate_left
        · show Act.put _ (some 46) _ = _; simp only [Act.put, zA, zB, zC, i64_w, i32_w]; rfl
        exact norm_ (by simp only [putAll, Act.put, zA, zB, zC]) (hCont (g9, g10) _ ⟨HB.out, by omega, by omega, by omega, by omega, by omega, by omega, by omega, by omega, by omega, by omega, by omega⟩)
    · skip
      refine value_ (w1 := ?_) (v := ?_) (by rfl) rfl ?_ ?_
      rotate_left 2
      · go_simp
        constructor
        · rfl
        · rfl
      have hltg10_1 := blk_lt (HB.out.bk 1 rfl)
      have hltg10_2 := blk_lt (HB.out.bk 2 rfl)
      have hltg10_3 := blk_lt (HB.out.bk 3 rfl)
      have hltg10_4 := blk_lt (HB.out.bk 4 rfl)
      have hltg10_5 := blk_lt (HB.out.bk 5 rfl)
      replace HB := Aside0.mk (show Bx w [(w.heap.size, a1, b1), (w.heap.size + 1, a2, b2), (g5, l1, l2), (g6, g1, g2), (g7, m1, m2), (g8, n1, n2), (wv10.heap.size, 0, 0)] _ from HB.out.box rfl 0 0)
      generalize World.alloc wv10 _ = vv7 at HB ⊢
      generalize wv10.heap.size = g10 at HB hltg10_1 hltg10_2 hltg10_3 hltg10_4 hltg10_5 ⊢
      refine hK.out _ _ ⟨HB.out.c0 0 rfl, HB.out.c1 0 rfl, HB.out.c0 1 rfl, HB.out.c1 1 rfl⟩ (fun hHeld => ?_)
      clear hK K
      refine norm_ (a' := ?_) ?_ ?_; rotate_left
      · show Act.put _ (some 10) _ = _; simp only [Act.put, zA, zB, zC, i64_w, i32_w]; rfl
      refine two_ (i := 2) (j := 6) (Ni := some 43) (Nj := some 9) (bl 10 159) (bl 10 219) rfl rfl rfl rfl (by as_aux_lemma => kernel_rfl) (by decide) (by decide) (fun K hK => ?_) (fun K hK => ?_)
      · skip
        refine goes_ Try.func38 (by as_aux_lemma => kernel_rfl) rfl #[.int .u8 16, .agg #[.int .i32 a1, .int .i32 b1], .agg #[.int .i32 a2, .int .i32 b2]] (by rfl) rfl rfl (by (try simp only [List.map_toArray, List.map_cons, List.map_nil]); first | done | rfl) ?_
        with_reducible refine (apply_c _ _ _ _ _ _ _ i_a1.out i_b1.out i_a2.out i_b2.out h16.out _).mono ?_
        rintro e vv2 ⟨rfl, hb⟩; refine ⟨_, rfl, ?_⟩
        replace HB := Aside0.mk (HB.out.step hb); clear hb
        refine hK.out _ _ ⟨HB.out.c0 0 rfl, HB.out.c1 0 rfl, HB.out.c0 1 rfl, HB.out.c1 1 rfl⟩ (fun hHeld => ?_)
        clear hK K
        refine norm_ (a' := ?_) ?_ ?_; rotate_left
        · show Act.put _ (some 43) _ = _; simp only [Act.put, zA, zB, zC, i64_w, i32_w]; rfl
        refine two_ (i := 5) (j := 6) (Ni := some 46) (Nj := some 9) (bl 10 191) (bl 10 223) rfl rfl rfl rfl (by as_aux_lemma => kernel_rfl) (by decide) (by decide) (fun K hK => ?_) (fun K hK => ?_)
        · skip
          refine goes_ Try.func38 (by as_aux_lemma => kernel_rfl) rfl #[.int .u8 17, .agg #[.int .i32 a1, .int .i32 b1], .agg #[.int .i32 a2, .int .i32 b2]] (by rfl) rfl rfl (by (try simp only [List.map_toArray, List.map_cons, List.map_nil]); first | done | rfl) ?_
          with_reducible refine (apply_c _ _ _ _ _ _ _ i_a1.out i_b1.out i_a2.out i_b2.out h17.out _).mono ?_
          rintro e vv5 ⟨rfl, hb⟩; refine ⟨_, rfl, ?_⟩
          replace HB := Aside0.mk (HB.out.step hb); clear hb
          refine hK.out _ _ ⟨HB.out.c0 0 rfl, HB.out.c1 0 rfl, HB.out.c0 1 rfl, HB.out.c1 1 rfl⟩ (fun hHeld => ?_)
          clear hK K
          refine norm_ (a' := ?_) ?_ ?_; rotate_left
          · show Act.put _ (some 46) _ = _; simp only [Act.put, zA, zB, zC, i64_w, i32_w]; rfl
          refine one_ (i := 6) (N := some 9) (bl 10 255) rfl rfl (by as_aux_lemma => kernel_rfl) (by decide) (fun K hK => ?_)
          refine value_ (w1 := ?_) (v := ?_) (by rfl) rfl ?_ ?_
          rotate_left 2
          · go_simp
            constructor
            · rfl
            · rfl
          have hltg9_1 := blk_lt (HB.out.bk 1 rfl)
          have hltg9_2 := blk_lt (HB.out.bk 2 rfl)
          have hltg9_3 := blk_lt (HB.out.bk 3 rfl)
          have hltg9_4 := blk_lt (HB.out.bk 4 rfl)
          have hltg9_5 := blk_lt (HB.out.bk 5 rfl)
          have hltg9_6 := blk_lt (HB.out.bk 6 rfl)
          replace HB := Aside0.mk (show Bx w [(w.heap.size, a1, b1), (w.heap.size + 1, a2, b2), (g5, l1, l2), (g6, g1, g2), (g7, m1, m2), (g8, n1, n2), (g10, 0, 0), (vv5.heap.size, 0, 0)] _ from HB.out.box rfl 0 0)
          generalize World.alloc vv5 _ = vv6 at HB ⊢
          generalize vv5.heap.size = g9 at HB hltg9_1 hltg9_2 hltg9_3 hltg9_4 hltg9_5 hltg9_6 ⊢
          refine hK.out _ _ ⟨HB.out.c0 0 rfl, HB.out.c1 0 rfl, HB.out.c0 1 rfl, HB.out.c1 1 rfl⟩ (fun hHeld => ?_)
          clear hK K
          refine norm_ (a' := ?_) ?_ ?_; rotate_left
          · show Act.put _ (some 9) _ = _; simp only [Act.put, zA, zB, zC, i64_w, i32_w]; rfl
          exact norm_ (by simp only [putAll, Act.put, zA, zB, zC]) (hCont (g9, g10) _ ⟨Bx.swap (L := [(w.heap.size, a1, b1), (w.heap.size + 1, a2, b2), (g5, l1, l2), (g6, g1, g2), (g7, m1, m2), (g8, n1, n2)]) (g10, 0, 0) (g9, 0, 0) HB.out, by omega, by omega, by omega, by omega, by omega, by omega, by omega, by omega, by omega, by omega, by omega⟩)
        · skip
          refine value_ (w1 := ?_) (v := ?_) (by rfl) rfl ?_ ?_
          rotate_left 2
          · go_simp
            constructor
            · rfl
            · rfl
          have hltg9_1 := blk_lt (HB.out.bk 1 rfl)
          have hltg9_2 := blk_lt (HB.out.bk 2 rfl)
          have hltg9_3 := blk_lt (HB.out.bk 3 rfl)
          have hltg9_4 := blk_lt (HB.out.bk 4 rfl)
          have hltg9_5 := blk_lt (HB.out.bk 5 rfl)
          have hltg9_6 := blk_lt (HB.out.bk 6 rfl)
          replace HB := Aside0.mk (show Bx w [(w.heap.size, a1, b1), (w.heap.size + 1, a2, b2), (g5, l1, l2), (g6, g1, g2), (g7, m1, m2), (g8, n1, n2), (g10, 0, 0), (vv2.heap.size, 0, 0)] _ from HB.out.box rfl 0 0)
          generalize World.alloc vv2 _ = vv6 at HB ⊢
          generalize vv2.heap.size = g9 at HB hltg9_1 hltg9_2 hltg9_3 hltg9_4 hltg9_5 hltg9_6 ⊢
          refine hK.out _ _ ⟨HB.out.c0 0 rfl, HB.out.c1 0 rfl, HB.out.c0 1 rfl, HB.out.c1 1 rfl⟩ (fun hHeld => ?_)
          clear hK K
          refine norm_ (a' := ?_) ?_ ?_; rotate_left
          · show Act.put _ (some 9) _ = _; simp only [Act.put, zA, zB, zC, i64_w, i32_w]; rfl
          refine one_ (i := 5) (N := some 46) (bl 10 255) rfl rfl (by as_aux_lemma => kernel_rfl) (by decide) (fun K hK => ?_)
          refine goes_ Try.func38 (by as_aux_lemma => kernel_rfl) rfl #[.int .u8 17, .agg #[.int .i32 a1, .int .i32 b1], .agg #[.int .i32 a2, .int .i32 b2]] (by rfl) rfl rfl (by (try simp only [List.map_toArray, List.map_cons, List.map_nil]); first | done | rfl) ?_
          with_reducible refine (apply_c _ _ _ _ _ _ _ i_a1.out i_b1.out i_a2.out i_b2.out h17.out _).mono ?_
          rintro e vv5 ⟨rfl, hb⟩; refine ⟨_, rfl, ?_⟩
          replace HB := Aside0.mk (HB.out.step hb); clear hb
          refine hK.out _ _ ⟨HB.out.c0 0 rfl, HB.out.c1 0 rfl, HB.out.c0 1 rfl, HB.out.c1 1 rfl⟩ (fun hHeld => ?_)
          clear hK K
          refine norm_ (a' := ?_) ?_ ?_; rotate_left
          · show Act.put _ (some 46) _ = _; simp only [Act.put, zA, zB, zC, i64_w, i32_w]; rfl
          exact norm_ (by simp only [putAll, Act.put, zA, zB, zC]) (hCont (g9, g10) _ ⟨Bx.swap (L := [(w.heap.size, a1, b1), (w.heap.size + 1, a2, b2), (g5, l1, l2), (g6, g1, g2), (g7, m1, m2), (g8, n1, n2)]) (g10, 0, 0) (g9, 0, 0) HB.out, by omega, by omega, by omega, by omega, by omega, by omega, by omega, by omega, by omega, by omega, by omega⟩)
      · skip
        refine value_ (w1 := ?_) (v := ?_) (by rfl) rfl ?_ ?_
        rotate_left 2
        · go_simp
          constructor
          · rfl
          · rfl
        have hltg9_1 := blk_lt (HB.out.bk 1 rfl)
        have hltg9_2 := blk_lt (HB.out.bk 2 rfl)
        have hltg9_3 := blk_lt (HB.out.bk 3 rfl)
        have hltg9_4 := blk_lt (HB.out.bk 4 rfl)
        have hltg9_5 := blk_lt (HB.out.bk 5 rfl)
        have hltg9_6 := blk_lt (HB.out.bk 6 rfl)
        replace HB := Aside0.mk (show Bx w [(w.heap.size, a1, b1), (w.heap.size + 1, a2, b2), (g5, l1, l2), (g6, g1, g2), (g7, m1, m2), (g8, n1, n2), (g10, 0, 0), (vv7.heap.size, 0, 0)] _ from HB.out.box rfl 0 0)
        generalize World.alloc vv7 _ = vv6 at HB ⊢
        generalize vv7.heap.size = g9 at HB hltg9_1 hltg9_2 hltg9_3 hltg9_4 hltg9_5 hltg9_6 ⊢
        refine hK.out _ _ ⟨HB.out.c0 0 rfl, HB.out.c1 0 rfl, HB.out.c0 1 rfl, HB.out.c1 1 rfl⟩ (fun hHeld => ?_)
        clear hK K
        refine norm_ (a' := ?_) ?_ ?_; rotate_left
        · show Act.put _ (some 9) _ = _; simp only [Act.put, zA, zB, zC, i64_w, i32_w]; rfl
        refine one_ (i := 2) (N := some 43) (bl 10 223) rfl rfl (by as_aux_lemma => kernel_rfl) (by decide) (fun K hK => ?_)
        refine goes_ Try.func38 (by as_aux_lemma => kernel_rfl) rfl #[.int .u8 16, .agg #[.int .i32 a1, .int .i32 b1], .agg #[.int .i32 a2, .int .i32 b2]] (by rfl) rfl rfl (by (try simp only [List.map_toArray, List.map_cons, List.map_nil]); first | done | rfl) ?_
        with_reducible refine (apply_c _ _ _ _ _ _ _ i_a1.out i_b1.out i_a2.out i_b2.out h16.out _).mono ?_
        rintro e vv2 ⟨rfl, hb⟩; refine ⟨_, rfl, ?_⟩
        replace HB := Aside0.mk (HB.out.step hb); clear hb
        refine hK.out _ _ ⟨HB.out.c0 0 rfl, HB.out.c1 0 rfl, HB.out.c0 1 rfl, HB.out.c1 1 rfl⟩ (fun hHeld => ?_)
        clear hK K
        refine norm_ (a' := ?_) ?_ ?_; rotate_left
        · show Act.put _ (some 43) _ = _; simp only [Act.put, zA, zB, zC, i64_w, i32_w]; rfl
        refine one_ (i := 5) (N := some 46) (bl 10 255) rfl rfl (by as_aux_lemma => kernel_rfl) (by decide) (fun K hK => ?_)
        refine goes_ Try.func38 (by as_aux_lemma => kernel_rfl) rfl #[.int .u8 17, .agg #[.int .i32 a1, .int .i32 b1], .agg #[.int .i32 a2, .int .i32 b2]] (by rfl) rfl rfl (by (try simp only [List.map_toArray, List.map_cons, List.map_nil]); first | done | rfl) ?_
        with_reducible refine (apply_c _ _ _ _ _ _ _ i_a1.out i_b1.out i_a2.out i_b2.out h17.out _).mono ?_
        rintro e vv5 ⟨rfl, hb⟩; refine ⟨_, rfl, ?_⟩
        replace HB := Aside0.mk (HB.out.step hb); clear hb
        refine hK.out _ _ ⟨HB.out.c0 0 rfl, HB.out.c1 0 rfl, HB.out.c0 1 rfl, HB.out.c1 1 rfl⟩ (fun hHeld => ?_)
        clear hK K
        refine norm_ (a' := ?_) ?_ ?_; rotate_left
        · show Act.put _ (some 46) _ = _; simp only [Act.put, zA, zB, zC, i64_w, i32_w]; rfl
        exact norm_ (by simp only [putAll, Act.put, zA, zB, zC]) (hCont (g9, g10) _ ⟨Bx.swap (L := [(w.heap.size, a1, b1), (w.heap.size + 1, a2, b2), (g5, l1, l2), (g6, g1, g2), (g7, m1, m2), (g8, n1, n2)]) (g10, 0, 0) (g9, 0, 0) HB.out, by omega, by omega, by omega, by omega, by omega, by omega, by omega, by omega, by omega, by omega, by omega⟩)
  clear HB
  rintro ⟨g9, g10⟩ w' ⟨HB1, hlg9_1, hlg9_2, hlg9_3, hlg9_4, hlg9_5, hlg10_1, hlg10_2, hlg10_3, hlg10_4, hlg10_5, hneg9⟩
  have hlg9_1 : w.heap.size + 1 < g9 := hlg9_1
  have hlg9_2 : g5 < g9 := hlg9_2
  have hlg9_3 : g6 < g9 := hlg9_3
  have hlg9_4 : g7 < g9 := hlg9_4
  have hlg9_5 : g8 < g9 := hlg9_5
  have hlg10_1 : w.heap.size + 1 < g10 := hlg10_1
  have hlg10_2 : g5 < g10 := hlg10_2
  have hlg10_3 : g6 < g10 := hlg10_3
  have hlg10_4 : g7 < g10 := hlg10_4
  have hlg10_5 : g8 < g10 := hlg10_5
  have hneg9 : g9 ≠ g10 := hneg9
  have HB : Aside0 (Bx w [(w.heap.size, a1, b1), (w.heap.size + 1, a2, b2), (g5, l1, l2), (g6, g1, g2), (g7, m1, m2), (g8, n1, n2), (g9, 0, 0), (g10, 0, 0)] w') := ⟨HB1⟩
  clear HB1
  have hHeld : w'.cell? ⟨w.heap.size, 0, none⟩ = some (.int .i32 a1) ∧ w'.cell? ⟨w.heap.size, 1, none⟩ = some (.int .i32 b1) ∧ w'.cell? ⟨w.heap.size + 1, 0, none⟩ = some (.int .i32 a2) ∧ w'.cell? ⟨w.heap.size + 1, 1, none⟩ = some (.int .i32 b2) := ⟨HB.out.c0 0 rfl, HB.out.c1 0 rfl, HB.out.c0 1 rfl, HB.out.c1 1 rfl⟩
  refine norm_ (a' := ?_) ?_ ?_; rotate_left
  · simp only [putAll, Act.put, zA, zB, zC]
    rfl
  refine one_ (i := 8) (N := none) (bl 10 511) rfl rfl (by as_aux_lemma => kernel_rfl) (by decide) (fun K hK => ?_)
  have C := HB.out.cl
  simp only [Cl, and_true] at C
  obtain ⟨_, _, _, _, _, _, _, _, _, _, _, _, _, _, _, _, _, _, _, _, _, _, _, _, _, _, _, _, _, _, _, _⟩ := C
  refine skip_ (w1 := ?_) (by rfl) rfl ?_ ?_
  rotate_left
  · go_simp
    rfl
  replace HB := Aside0.mk (show Bx w [(w.heap.size, a1, b1), (w.heap.size + 1, a2, b2), (g5, l1, l2), (g6, g1, g2), (g7, m1, m2), (g8, n1, n2), (g9, e1, e2), (g10, 0, 0)] _ from HB.out.put 6 rfl (by intro m g' a' b' hm hne; rcases m with _ | _ | _ | _ | _ | _ | _ | _ | m <;> simp at hm <;> omega) (by omega) e1 e2)
  generalize World.setCell (World.setCell _ _ _) _ _ = wv8 at HB ⊢
  refine hK.out _ _ ⟨HB.out.c0 0 rfl, HB.out.c1 0 rfl, HB.out.c0 1 rfl, HB.out.c1 1 rfl⟩ (fun hHeld => ?_)
  clear hK K
  refine one_ (i := 9) (N := none) (bl 10 1023) rfl rfl (by as_aux_lemma => kernel_rfl) (by decide) (fun K hK => ?_)
  have C := HB.out.cl
  simp only [Cl, and_true] at C
  obtain ⟨_, _, _, _, _, _, _, _, _, _, _, _, _, _, _, _, _, _, _, _, _, _, _, _, _, _, _, _, _, _, _, _⟩ := C
  refine skip_ (w1 := ?_) (by rfl) rfl ?_ ?_
  rotate_left
  · go_simp
    rfl
  replace HB := Aside0.mk (show Bx w [(w.heap.size, a1, b1), (w.heap.size + 1, a2, b2), (g5, l1, l2), (g6, g1, g2), (g7, m1, m2), (g8, n1, n2), (g9, e1, e2), (g10, f1, f2)] _ from HB.out.put 7 rfl (by intro m g' a' b' hm hne; rcases m with _ | _ | _ | _ | _ | _ | _ | _ | m <;> simp at hm <;> omega) (by omega) f1 f2)
  generalize World.setCell (World.setCell _ _ _) _ _ = wv9 at HB ⊢
  refine hK.out _ _ ⟨HB.out.c0 0 rfl, HB.out.c1 0 rfl, HB.out.c0 1 rfl, HB.out.c1 1 rfl⟩ (fun hHeld => ?_)
  clear hK K
  refine done_ (by as_aux_lemma => kernel_rfl) ?_
  have C := HB.out.cl
  simp only [Cl, and_true] at C
  obtain ⟨_, _, _, _, _, _, _, _, _, _, _, _, _, _, _, _, _, _, _, _, _, _, _, _, _, _, _, _, _, _, _, _⟩ := C
  go_upto_region 7 with (fail)
  cases t3 with
  | false =>
    have k6 : Aside0 (hasv e1 e2 1 = false) := ⟨k5.out⟩
    replace HB := Aside0.mk (HB.out.drew)
    refine start_ (n := 77) (S := fun w' => w'.cell? ⟨w.heap.size, 0, none⟩ = some (.int .i32 a1) ∧ w'.cell? ⟨w.heap.size, 1, none⟩ = some (.int .i32 b1) ∧ w'.cell? ⟨w.heap.size + 1, 0, none⟩ = some (.int .i32 a2) ∧ w'.cell? ⟨w.heap.size + 1, 1, none⟩ = some (.int .i32 b2) ∧ w'.cell? ⟨g5, 0, none⟩ = some (.int .i32 l1) ∧ w'.cell? ⟨g5, 1, none⟩ = some (.int .i32 l2) ∧ w'.cell? ⟨g6, 0, none⟩ = some (.int .i32 g1) ∧ w'.cell? ⟨g6, 1, none⟩ = some (.int .i32 g2) ∧ w'.cell? ⟨g7, 0, none⟩ = some (.int .i32 m1) ∧ w'.cell? ⟨g7, 1, none⟩ = some (.int .i32 m2) ∧ w'.cell? ⟨g8, 0, none⟩ = some (.int .i32 n1) ∧ w'.cell? ⟨g8, 1, none⟩ = some (.int .i32 n2) ∧ w'.cell? ⟨g9, 0, none⟩ = some (.int .i32 e1) ∧ w'.cell? ⟨g9, 1, none⟩ = some (.int .i32 e2) ∧ w'.cell? ⟨g10, 0, none⟩ = some (.int .i32 f1) ∧ w'.cell? ⟨g10, 1, none⟩ = some (.int .i32 f2)) (ds := []) #[false, false, false, false, false, false, false, false, false, false, false, false, false, false, false, false, false, false, false, false, false, false, false, false, false, false, false, false, false, false, false, false, false, false, false, false, false, false, false, false, false, false, false, false, false, false, false, false, false, false, false, false, false, false, false, false, false, false, false, false, false, false, false, false, false, false, false, false, false, false, false, false, false, false, false, false, false] (by as_aux_lemma => kernel_rfl) rfl rfl ⟨HB.out.c0 0 rfl, HB.out.c1 0 rfl, HB.out.c0 1 rfl, HB.out.c1 1 rfl, HB.out.c0 2 rfl, HB.out.c1 2 rfl, HB.out.c0 3 rfl, HB.out.c1 3 rfl, HB.out.c0 4 rfl, HB.out.c1 4 rfl, HB.out.c0 5 rfl, HB.out.c1 5 rfl, HB.out.c0 6 rfl, HB.out.c1 6 rfl, HB.out.c0 7 rfl, HB.out.c1 7 rfl⟩ (fun hHeld => ?_)
    generalize wv9.drew = wv11 at HB hHeld ⊢
    refine pure_ (i := 2) (N := some 49) (v := ?_) (a' := ?_) (bl 77 4) rfl rfl (by as_aux_lemma => kernel_rfl) (fun _ _ _ h => h) (Or.inl ⟨by rfl, ?_⟩) ?_ ?_
    rotate_left
    · intro w'; go_simp; with_reducible rfl
    rotate_left
    · simp only [Act.put, zA, zB, zC, i64_w, i32_w]; rfl
    refine pure_ (i := 4) (N := some 51) (v := ?_) (a' := ?_) (bl 77 20) rfl rfl (by as_aux_lemma => kernel_rfl) (fun _ _ _ h => h) (Or.inl ⟨by rfl, ?_⟩) ?_ ?_
    rotate_left
    · intro w'; go_simp; with_reducible rfl
    rotate_left
    · simp only [Act.put, zA, zB, zC, i64_w, i32_w]; rfl
    refine take_ (i := 0) (N := some 47) (v := ?_) (a' := ?_) (bl 77 21) rfl rfl (by as_aux_lemma => kernel_rfl) (fun _ _ _ h => h) (Or.inl ⟨by rfl, ?_⟩) hHeld ?_ ?_
    rotate_left
    · rintro w' ⟨s0, s1, s2, s3, s4, s5, s6, s7, s8, s9, s10, s11, s12, s13, s14, s15⟩; go_simp; with_reducible rfl
    rotate_left
    · simp only [Act.put, zA, zB, zC, i64_w, i32_w]; rfl
    refine take_ (i := 3) (N := some 50) (v := ?_) (a' := ?_) (bl 77 29) rfl rfl (by as_aux_lemma => kernel_rfl) (fun _ _ _ h => h) (Or.inl ⟨by rfl, ?_⟩) hHeld ?_ ?_
    rotate_left
    · rintro w' ⟨s0, s1, s2, s3, s4, s5, s6, s7, s8, s9, s10, s11, s12, s13, s14, s15⟩; go_simp; with_reducible rfl
    rotate_left
    · simp only [Act.put, zA, zB, zC, i64_w, i32_w]; rfl
    refine take_ (i := 5) (N := some 52) (v := ?_) (a' := ?_) (bl 77 61) rfl rfl (by as_aux_lemma => kernel_rfl) (fun _ _ _ h => h) (Or.inl ⟨by rfl, ?_⟩) hHeld ?_ ?_
    rotate_left
    · rintro w' ⟨s0, s1, s2, s3, s4, s5, s6, s7, s8, s9, s10, s11, s12, s13, s14, s15⟩; go_simp; with_reducible rfl
    rotate_left
    · simp only [Act.put, zA, zB, zC, i64_w, i32_w]; rfl
    refine pure_ (i := 6) (N := some 53) (v := ?_) (a' := ?_) (bl 77 125) rfl rfl (by as_aux_lemma => kernel_rfl) (fun _ _ _ h => h) (Or.inl ⟨by rfl, ?_⟩) ?_ ?_
    rotate_left
    · intro w'; go_simp; with_reducible rfl
    rotate_left
    · simp only [Act.put, zA, zB, zC, i64_w, i32_w]; rfl
    refine one_ (i := 1) (N := some 48) (bl 77 127) rfl rfl (by as_aux_lemma => kernel_rfl) (by decide) (fun K hK => ?_)
    refine goes_ Try.func30 (by as_aux_lemma => kernel_rfl) rfl #[.agg #[.int .i32 l1, .int .i32 l2], .int .i32 1] (by rfl) rfl rfl (by (try simp only [List.map_toArray, List.map_cons, List.map_nil]); first | done | rfl) ?_
    with_reducible refine (contains_c _ _ _ _ k1.out _).mono ?_
    rintro e wv12 ⟨rfl, hb⟩; refine ⟨_, rfl, ?_⟩
    replace HB := Aside0.mk (HB.out.step hb); clear hb
    refine hK.out _ _ ⟨HB.out.c0 0 rfl, HB.out.c1 0 rfl, HB.out.c0 1 rfl, HB.out.c1 1 rfl, HB.out.c0 2 rfl, HB.out.c1 2 rfl, HB.out.c0 3 rfl, HB.out.c1 3 rfl, HB.out.c0 4 rfl, HB.out.c1 4 rfl, HB.out.c0 5 rfl, HB.out.c1 5 rfl, HB.out.c0 6 rfl, HB.out.c1 6 rfl, HB.out.c0 7 rfl, HB.out.c1 7 rfl⟩ (fun hHeld => ?_)
    clear hK K
    refine norm_ (a' := ?_) ?_ ?_; rotate_left
    · show Act.put _ (some 48) _ = _; simp only [Act.put, zA, zB, zC, i64_w, i32_w]; rfl
    refine pure_ (i := 7) (N := some 54) (v := ?_) (a' := ?_) (bl 77 255) rfl rfl (by as_aux_lemma => kernel_rfl) (fun _ _ _ h => h) (Or.inl ⟨by rfl, ?_⟩) ?_ ?_
    rotate_left
    · intro w'; go_simp; with_reducible rfl
    rotate_left
    · simp only [Act.put, zA, zB, zC, i64_w, i32_w]; rfl
    refine pure_ (i := 8) (N := some 55) (v := ?_) (a' := ?_) (bl 77 511) rfl rfl (by as_aux_lemma => kernel_rfl) (fun _ _ _ h => h) (Or.inl ⟨by rfl, ?_⟩) ?_ ?_
    rotate_left
    · intro w'; go_simp; with_reducible rfl
    rotate_left
    · simp only [Act.put, zA, zB, zC, i64_w, i32_w]; rfl
    refine pure_ (i := 11) (N := some 58) (v := ?_) (a' := ?_) (bl 77 2559) rfl rfl (by as_aux_lemma => kernel_rfl) (fun _ _ _ h => h) (Or.inl ⟨by rfl, ?_⟩) ?_ ?_
    rotate_left
    · intro w'; go_simp; with_reducible rfl
    rotate_left
    · simp only [Act.put, zA, zB, zC, i64_w, i32_w]; rfl
    refine pure_ (i := 13) (N := some 60) (v := ?_) (a' := ?_) (bl 77 10751) rfl rfl (by as_aux_lemma => kernel_rfl) (fun _ _ _ h => h) (Or.inl ⟨by rfl, ?_⟩) ?_ ?_
    rotate_left
    · intro w'; go_simp; with_reducible rfl
    rotate_left
    · simp only [Act.put, zA, zB, zC, i64_w, i32_w]; rfl
    refine take_ (i := 9) (N := some 56) (v := ?_) (a' := ?_) (bl 77 11263) rfl rfl (by as_aux_lemma => kernel_rfl) (fun _ _ _ h => h) (Or.inl ⟨by rfl, ?_⟩) hHeld ?_ ?_
    rotate_left
    · rintro w' ⟨s0, s1, s2, s3, s4, s5, s6, s7, s8, s9, s10, s11, s12, s13, s14, s15⟩; go_simp; with_reducible rfl
    rotate_left
    · simp only [Act.put, zA, zB, zC, i64_w, i32_w]; rfl
    refine take_ (i := 12) (N := some 59) (v := ?_) (a' := ?_) (bl 77 15359) rfl rfl (by as_aux_lemma => kernel_rfl) (fun _ _ _ h => h) (Or.inl ⟨by rfl, ?_⟩) hHeld ?_ ?_
    rotate_left
    · rintro w' ⟨s0, s1, s2, s3, s4, s5, s6, s7, s8, s9, s10, s11, s12, s13, s14, s15⟩; go_simp; with_reducible rfl
    rotate_left
    · simp only [Act.put, zA, zB, zC, i64_w, i32_w]; rfl
    refine take_ (i := 14) (N := some 61) (v := ?_) (a' := ?_) (bl 77 31743) rfl rfl (by as_aux_lemma => kernel_rfl) (fun _ _ _ h => h) (Or.inl ⟨by rfl, ?_⟩) hHeld ?_ ?_
    rotate_left
    · rintro w' ⟨s0, s1, s2, s3, s4, s5, s6, s7, s8, s9, s10, s11, s12, s13, s14, s15⟩; go_simp; with_reducible rfl
    rotate_left
    · simp only [Act.put, zA, zB, zC, i64_w, i32_w]; rfl
    refine pure_ (i := 15) (N := some 62) (v := ?_) (a' := ?_) (bl 77 64511) rfl rfl (by as_aux_lemma => kernel_rfl) (fun _ _ _ h => h) (Or.inl ⟨by rfl, ?_⟩) ?_ ?_
    rotate_left
    · intro w'; go_simp; with_reducible rfl
    rotate_left
    · simp only [Act.put, zA, zB, zC, i64_w, i32_w]; rfl
    refine one_ (i := 10) (N := some 57) (bl 77 65535) rfl rfl (by as_aux_lemma => kernel_rfl) (by decide) (fun K hK => ?_)
    refine goes_ Try.func30 (by as_aux_lemma => kernel_rfl) rfl #[.agg #[.int .i32 l1, .int .i32 l2], .int .i32 0] (by rfl) rfl rfl (by (try simp only [List.map_toArray, List.map_cons, List.map_nil]); first | done | rfl) ?_
    with_reducible refine (contains_c _ _ _ _ k2.out _).mono ?_
    rintro e wv13 ⟨rfl, hb⟩; refine ⟨_, rfl, ?_⟩
    replace HB := Aside0.mk (HB.out.step hb); clear hb
    refine hK.out _ _ ⟨HB.out.c0 0 rfl, HB.out.c1 0 rfl, HB.out.c0 1 rfl, HB.out.c1 1 rfl, HB.out.c0 2 rfl, HB.out.c1 2 rfl, HB.out.c0 3 rfl, HB.out.c1 3 rfl, HB.out.c0 4 rfl, HB.out.c1 4 rfl, HB.out.c0 5 rfl, HB.out.c1 5 rfl, HB.out.c0 6 rfl, HB.out.c1 6 rfl, HB.out.c0 7 rfl, HB.out.c1 7 rfl⟩ (fun hHeld => ?_)
    clear hK K
    refine norm_ (a' := ?_) ?_ ?_; rotate_left
    · show Act.put _ (some 57) _ = _; simp only [Act.put, zA, zB, zC, i64_w, i32_w]; rfl
    refine pure_ (i := 16) (N := some 63) (v := ?_) (a' := ?_) (bl 77 131071) rfl rfl (by as_aux_lemma => kernel_rfl) (fun _ _ _ h => h) (Or.inl ⟨by rfl, ?_⟩) ?_ ?_
    rotate_left
    · intro w'; go_simp; with_reducible rfl
    rotate_left
    · simp only [Act.put, zA, zB, zC, i64_w, i32_w]; rfl
    refine pure_ (i := 17) (N := some 64) (v := ?_) (a' := ?_) (bl 77 262143) rfl rfl (by as_aux_lemma => kernel_rfl) (fun _ _ _ h => h) (Or.inl ⟨by rfl, ?_⟩) ?_ ?_
    rotate_left
    · intro w'; go_simp; with_reducible rfl
    rotate_left
    · simp only [Act.put, zA, zB, zC, i64_w, i32_w]; rfl
    refine pure_ (i := 18) (N := some 65) (v := ?_) (a' := ?_) (bl 77 524287) rfl rfl (by as_aux_lemma => kernel_rfl) (fun _ _ _ h => h) (Or.inl ⟨by rfl, ?_⟩) ?_ ?_
    rotate_left
    · intro w'; go_simp; with_reducible rfl
    rotate_left
    · simp only [Act.put, zA, zB, zC, i64_w, i32_w]; rfl
    refine pure_ (i := 21) (N := some 68) (v := ?_) (a' := ?_) (bl 77 2621439) rfl rfl (by as_aux_lemma => kernel_rfl) (fun _ _ _ h => h) (Or.inl ⟨by rfl, ?_⟩) ?_ ?_
    rotate_left
    · intro w'; go_simp; with_reducible rfl
    rotate_left
    · simp only [Act.put, zA, zB, zC, i64_w, i32_w]; rfl
    refine pure_ (i := 23) (N := some 70) (v := ?_) (a' := ?_) (bl 77 11010047) rfl rfl (by as_aux_lemma => kernel_rfl) (fun _ _ _ h => h) (Or.inl ⟨by rfl, ?_⟩) ?_ ?_
    rotate_left
    · intro w'; go_simp; with_reducible rfl
    rotate_left
    · simp only [Act.put, zA, zB, zC, i64_w, i32_w]; rfl
    refine take_ (i := 19) (N := some 66) (v := ?_) (a' := ?_) (bl 77 11534335) rfl rfl (by as_aux_lemma => kernel_rfl) (fun _ _ _ h => h) (Or.inl ⟨by rfl, ?_⟩) hHeld ?_ ?_
    rotate_left
    · rintro w' ⟨s0, s1, s2, s3, s4, s5, s6, s7, s8, s9, s10, s11, s12, s13, s14, s15⟩; go_simp; with_reducible rfl
    rotate_left
    · simp only [Act.put, zA, zB, zC, i64_w, i32_w]; rfl
    refine take_ (i := 22) (N := some 69) (v := ?_) (a' := ?_) (bl 77 15728639) rfl rfl (by as_aux_lemma => kernel_rfl) (fun _ _ _ h => h) (Or.inl ⟨by rfl, ?_⟩) hHeld ?_ ?_
    rotate_left
    · rintro w' ⟨s0, s1, s2, s3, s4, s5, s6, s7, s8, s9, s10, s11, s12, s13, s14, s15⟩; go_simp; with_reducible rfl
    rotate_left
    · simp only [Act.put, zA, zB, zC, i64_w, i32_w]; rfl
    refine take_ (i := 24) (N := some 71) (v := ?_) (a' := ?_) (bl 77 32505855) rfl rfl (by as_aux_lemma => kernel_rfl) (fun _ _ _ h => h) (Or.inl ⟨by rfl, ?_⟩) hHeld ?_ ?_
    rotate_left
    · rintro w' ⟨s0, s1, s2, s3, s4, s5, s6, s7, s8, s9, s10, s11, s12, s13, s14, s15⟩; go_simp; with_reducible rfl
    rotate_left
    · simp only [Act.put, zA, zB, zC, i64_w, i32_w]; rfl
    refine pure_ (i := 25) (N := some 72) (v := ?_) (a' := ?_) (bl 77 66060287) rfl rfl (by as_aux_lemma => kernel_rfl) (fun _ _ _ h => h) (Or.inl ⟨by rfl, ?_⟩) ?_ ?_
    rotate_left
    · intro w'; go_simp; with_reducible rfl
    rotate_left
    · simp only [Act.put, zA, zB, zC, i64_w, i32_w]; rfl
    refine one_ (i := 20) (N := some 67) (bl 77 67108863) rfl rfl (by as_aux_lemma => kernel_rfl) (by decide) (fun K hK => ?_)
    refine goes_ Try.func30 (by as_aux_lemma => kernel_rfl) rfl #[.agg #[.int .i32 m1, .int .i32 m2], .int .i32 1] (by rfl) rfl rfl (by (try simp only [List.map_toArray, List.map_cons, List.map_nil]); first | done | rfl) ?_
    with_reducible refine (contains_c _ _ _ _ k3.out _).mono ?_
    rintro e wv14 ⟨rfl, hb⟩; refine ⟨_, rfl, ?_⟩
    replace HB := Aside0.mk (HB.out.step hb); clear hb
    refine hK.out _ _ ⟨HB.out.c0 0 rfl, HB.out.c1 0 rfl, HB.out.c0 1 rfl, HB.out.c1 1 rfl, HB.out.c0 2 rfl, HB.out.c1 2 rfl, HB.out.c0 3 rfl, HB.out.c1 3 rfl, HB.out.c0 4 rfl, HB.out.c1 4 rfl, HB.out.c0 5 rfl, HB.out.c1 5 rfl, HB.out.c0 6 rfl, HB.out.c1 6 rfl, HB.out.c0 7 rfl, HB.out.c1 7 rfl⟩ (fun hHeld => ?_)
    clear hK K
    refine norm_ (a' := ?_) ?_ ?_; rotate_left
    · show Act.put _ (some 67) _ = _; simp only [Act.put, zA, zB, zC, i64_w, i32_w]; rfl
    refine pure_ (i := 26) (N := some 73) (v := ?_) (a' := ?_) (bl 77 134217727) rfl rfl (by as_aux_lemma => kernel_rfl) (fun _ _ _ h => h) (Or.inl ⟨by rfl, ?_⟩) ?_ ?_
    rotate_left
    · intro w'; go_simp; with_reducible rfl
    rotate_left
    · simp only [Act.put, zA, zB, zC, i64_w, i32_w]; rfl
    refine pure_ (i := 27) (N := some 74) (v := ?_) (a' := ?_) (bl 77 268435455) rfl rfl (by as_aux_lemma => kernel_rfl) (fun _ _ _ h => h) (Or.inl ⟨by rfl, ?_⟩) ?_ ?_
    rotate_left
    · intro w'; go_simp; with_reducible rfl
    rotate_left
    · simp only [Act.put, zA, zB, zC, i64_w, i32_w]; rfl
    refine pure_ (i := 28) (N := some 75) (v := ?_) (a' := ?_) (bl 77 536870911) rfl rfl (by as_aux_lemma => kernel_rfl) (fun _ _ _ h => h) (Or.inl ⟨by rfl, ?_⟩) ?_ ?_
    rotate_left
    · intro w'; go_simp; with_reducible rfl
    rotate_left
    · simp only [Act.put, zA, zB, zC, i64_w, i32_w]; rfl
    refine pure_ (i := 31) (N := some 78) (v := ?_) (a' := ?_) (bl 77 2684354559) rfl rfl (by as_aux_lemma => kernel_rfl) (fun _ _ _ h => h) (Or.inl ⟨by rfl, ?_⟩) ?_ ?_
    rotate_left
    · intro w'; go_simp; with_reducible rfl
    rotate_left
    · simp only [Act.put, zA, zB, zC, i64_w, i32_w]; rfl
    refine pure_ (i := 33) (N := some 80) (v := ?_) (a' := ?_) (bl 77 11274289151) rfl rfl (by as_aux_lemma => kernel_rfl) (fun _ _ _ h => h) (Or.inl ⟨by rfl, ?_⟩) ?_ ?_
    rotate_left
    · intro w'; go_simp; with_reducible rfl
    rotate_left
    · simp only [Act.put, zA, zB, zC, i64_w, i32_w]; rfl
    refine take_ (i := 29) (N := some 76) (v := ?_) (a' := ?_) (bl 77 11811160063) rfl rfl (by as_aux_lemma => kernel_rfl) (fun _ _ _ h => h) (Or.inl ⟨by rfl, ?_⟩) hHeld ?_ ?_
    rotate_left
    · rintro w' ⟨s0, s1, s2, s3, s4, s5, s6, s7, s8, s9, s10, s11, s12, s13, s14, s15⟩; go_simp; with_reducible rfl
    rotate_left
    · simp only [Act.put, zA, zB, zC, i64_w, i32_w]; rfl
    refine take_ (i := 32) (N := some 79) (v := ?_) (a' := ?_) (bl 77 16106127359) rfl rfl (by as_aux_lemma => kernel_rfl) (fun _ _ _ h => h) (Or.inl ⟨by rfl, ?_⟩) hHeld ?_ ?_
    rotate_left
    · rintro w' ⟨s0, s1, s2, s3, s4, s5, s6, s7, s8, s9, s10, s11, s12, s13, s14, s15⟩; go_simp; with_reducible rfl
    rotate_left
    · simp only [Act.put, zA, zB, zC, i64_w, i32_w]; rfl
    refine take_ (i := 34) (N := some 81) (v := ?_) (a' := ?_) (bl 77 33285996543) rfl rfl (by as_aux_lemma => kernel_rfl) (fun _ _ _ h => h) (Or.inl ⟨by rfl, ?_⟩) hHeld ?_ ?_
    rotate_left
    · rintro w' ⟨s0, s1, s2, s3, s4, s5, s6, s7, s8, s9, s10, s11, s12, s13, s14, s15⟩; go_simp; with_reducible rfl
    rotate_left
    · simp only [Act.put, zA, zB, zC, i64_w, i32_w]; rfl
    refine pure_ (i := 35) (N := some 82) (v := ?_) (a' := ?_) (bl 77 67645734911) rfl rfl (by as_aux_lemma => kernel_rfl) (fun _ _ _ h => h) (Or.inl ⟨by rfl, ?_⟩) ?_ ?_
    rotate_left
    · intro w'; go_simp; with_reducible rfl
    rotate_left
    · simp only [Act.put, zA, zB, zC, i64_w, i32_w]; rfl
    refine one_ (i := 30) (N := some 77) (bl 77 68719476735) rfl rfl (by as_aux_lemma => kernel_rfl) (by decide) (fun K hK => ?_)
    refine goes_ Try.func30 (by as_aux_lemma => kernel_rfl) rfl #[.agg #[.int .i32 m1, .int .i32 m2], .int .i32 0] (by rfl) rfl rfl (by (try simp only [List.map_toArray, List.map_cons, List.map_nil]); first | done | rfl) ?_
    with_reducible refine (contains_c _ _ _ _ k4.out _).mono ?_
    rintro e wv15 ⟨rfl, hb⟩; refine ⟨_, rfl, ?_⟩
    replace HB := Aside0.mk (HB.out.step hb); clear hb
    refine hK.out _ _ ⟨HB.out.c0 0 rfl, HB.out.c1 0 rfl, HB.out.c0 1 rfl, HB.out.c1 1 rfl, HB.out.c0 2 rfl, HB.out.c1 2 rfl, HB.out.c0 3 rfl, HB.out.c1 3 rfl, HB.out.c0 4 rfl, HB.out.c1 4 rfl, HB.out.c0 5 rfl, HB.out.c1 5 rfl, HB.out.c0 6 rfl, HB.out.c1 6 rfl, HB.out.c0 7 rfl, HB.out.c1 7 rfl⟩ (fun hHeld => ?_)
    clear hK K
    refine norm_ (a' := ?_) ?_ ?_; rotate_left
    · show Act.put _ (some 77) _ = _; simp only [Act.put, zA, zB, zC, i64_w, i32_w]; rfl
    refine pure_ (i := 36) (N := some 83) (v := ?_) (a' := ?_) (bl 77 137438953471) rfl rfl (by as_aux_lemma => kernel_rfl) (fun _ _ _ h => h) (Or.inl ⟨by rfl, ?_⟩) ?_ ?_
    rotate_left
    · intro w'; go_simp; with_reducible rfl
    rotate_left
    · simp only [Act.put, zA, zB, zC, i64_w, i32_w]; rfl
    refine pure_ (i := 37) (N := some 84) (v := ?_) (a' := ?_) (bl 77 274877906943) rfl rfl (by as_aux_lemma => kernel_rfl) (fun _ _ _ h => h) (Or.inl ⟨by rfl, ?_⟩) ?_ ?_
    rotate_left
    · intro w'; go_simp; with_reducible rfl
    rotate_left
    · simp only [Act.put, zA, zB, zC, i64_w, i32_w]; rfl
    refine pure_ (i := 38) (N := some 85) (v := ?_) (a' := ?_) (bl 77 549755813887) rfl rfl (by as_aux_lemma => kernel_rfl) (fun _ _ _ h => h) (Or.inl ⟨by rfl, ?_⟩) ?_ ?_
    rotate_left
    · intro w'; go_simp; with_reducible rfl
    rotate_left
    · simp only [Act.put, zA, zB, zC, i64_w, i32_w]; rfl
    refine pure_ (i := 40) (N := some 87) (v := ?_) (a' := ?_) (bl 77 1649267441663) rfl rfl (by as_aux_lemma => kernel_rfl) (fun _ _ _ h => h) (Or.inl ⟨by rfl, ?_⟩) ?_ ?_
    rotate_left
    · intro w'; go_simp; with_reducible rfl
    rotate_left
    · simp only [Act.put, zA, zB, zC, i64_w, i32_w]; rfl
    refine take_ (i := 39) (N := some 86) (v := ?_) (a' := ?_) (bl 77 2199023255551) rfl rfl (by as_aux_lemma => kernel_rfl) (fun _ _ _ h => h) (Or.inl ⟨by rfl, ?_⟩) hHeld ?_ ?_
    rotate_left
    · rintro w' ⟨s0, s1, s2, s3, s4, s5, s6, s7, s8, s9, s10, s11, s12, s13, s14, s15⟩; go_simp; with_reducible rfl
    rotate_left
    · simp only [Act.put, zA, zB, zC, i64_w, i32_w]; rfl
    refine take_ (i := 41) (N := some 88) (v := ?_) (a' := ?_) (bl 77 4398046511103) rfl rfl (by as_aux_lemma => kernel_rfl) (fun _ _ _ h => h) (Or.inl ⟨by rfl, ?_⟩) hHeld ?_ ?_
    rotate_left
    · rintro w' ⟨s0, s1, s2, s3, s4, s5, s6, s7, s8, s9, s10, s11, s12, s13, s14, s15⟩; go_simp; with_reducible rfl
    rotate_left
    · simp only [Act.put, zA, zB, zC, i64_w, i32_w]; rfl
    refine one_ (i := 42) (N := some 89) (bl 77 8796093022207) rfl rfl (by as_aux_lemma => kernel_rfl) (by decide) (fun K hK => ?_)
    refine goesV_ Try.func43 (by as_aux_lemma => kernel_rfl) rfl #[.agg #[.int .i32 l1, .int .i32 l2]] (by rfl) rfl rfl rfl (by (try simp only [List.map_toArray, List.map_cons, List.map_nil]); first | done | rfl) ?_
    with_reducible refine (flip_c _ _ _ _ q1.out _).mono ?_
    rintro e wv16 ⟨rfl, hb⟩; refine ⟨_, rfl, ?_⟩
    replace HB := Aside0.mk (HB.out.step hb); clear hb
    refine hK.out _ _ ⟨HB.out.c0 0 rfl, HB.out.c1 0 rfl, HB.out.c0 1 rfl, HB.out.c1 1 rfl, HB.out.c0 2 rfl, HB.out.c1 2 rfl, HB.out.c0 3 rfl, HB.out.c1 3 rfl, HB.out.c0 4 rfl, HB.out.c1 4 rfl, HB.out.c0 5 rfl, HB.out.c1 5 rfl, HB.out.c0 6 rfl, HB.out.c1 6 rfl, HB.out.c0 7 rfl, HB.out.c1 7 rfl⟩ (fun hHeld => ?_)
    clear hK K
    refine norm_ (a' := ?_) ?_ ?_; rotate_left
    · show Act.put _ (some 89) _ = _; simp only [Act.put, zA, zB, zC, i64_w, i32_w]; rfl
    refine pure_ (i := 43) (N := some 90) (v := ?_) (a' := ?_) (bl 77 17592186044415) rfl rfl (by as_aux_lemma => kernel_rfl) (fun _ _ _ h => h) (Or.inl ⟨by rfl, ?_⟩) ?_ ?_
    rotate_left
    · intro w'; go_simp; with_reducible rfl
    rotate_left
    · simp only [Act.put, zA, zB, zC, i64_w, i32_w]; rfl
    refine pure_ (i := 44) (N := some 91) (v := ?_) (a' := ?_) (bl 77 35184372088831) rfl rfl (by as_aux_lemma => kernel_rfl) (fun _ _ _ h => h) (Or.inl ⟨by rfl, ?_⟩) ?_ ?_
    rotate_left
    · intro w'; go_simp; with_reducible rfl
    rotate_left
    · simp only [Act.put, zA, zB, zC, i64_w, i32_w]; rfl
    refine pure_ (i := 45) (N := some 92) (v := ?_) (a' := ?_) (bl 77 70368744177663) rfl rfl (by as_aux_lemma => kernel_rfl) (fun _ _ _ h => h) (Or.inl ⟨by rfl, ?_⟩) ?_ ?_
    rotate_left
    · intro w'; go_simp; with_reducible rfl
    rotate_left
    · simp only [Act.put, zA, zB, zC, i64_w, i32_w]; rfl
    refine pure_ (i := 47) (N := some 94) (v := ?_) (a' := ?_) (bl 77 211106232532991) rfl rfl (by as_aux_lemma => kernel_rfl) (fun _ _ _ h => h) (Or.inl ⟨by rfl, ?_⟩) ?_ ?_
    rotate_left
    · intro w'; go_simp; with_reducible rfl
    rotate_left
    · simp only [Act.put, zA, zB, zC, i64_w, i32_w]; rfl
    refine take_ (i := 46) (N := some 93) (v := ?_) (a' := ?_) (bl 77 281474976710655) rfl rfl (by as_aux_lemma => kernel_rfl) (fun _ _ _ h => h) (Or.inl ⟨by rfl, ?_⟩) hHeld ?_ ?_
    rotate_left
    · rintro w' ⟨s0, s1, s2, s3, s4, s5, s6, s7, s8, s9, s10, s11, s12, s13, s14, s15⟩; go_simp; with_reducible rfl
    rotate_left
    · simp only [Act.put, zA, zB, zC, i64_w, i32_w]; rfl
    refine take_ (i := 48) (N := some 95) (v := ?_) (a' := ?_) (bl 77 562949953421311) rfl rfl (by as_aux_lemma => kernel_rfl) (fun _ _ _ h => h) (Or.inl ⟨by rfl, ?_⟩) hHeld ?_ ?_
    rotate_left
    · rintro w' ⟨s0, s1, s2, s3, s4, s5, s6, s7, s8, s9, s10, s11, s12, s13, s14, s15⟩; go_simp; with_reducible rfl
    rotate_left
    · simp only [Act.put, zA, zB, zC, i64_w, i32_w]; rfl
    refine one_ (i := 49) (N := some 96) (bl 77 1125899906842623) rfl rfl (by as_aux_lemma => kernel_rfl) (by decide) (fun K hK => ?_)
    refine goesV_ Try.func43 (by as_aux_lemma => kernel_rfl) rfl #[.agg #[.int .i32 m1, .int .i32 m2]] (by rfl) rfl rfl rfl (by (try simp only [List.map_toArray, List.map_cons, List.map_nil]); first | done | rfl) ?_
    with_reducible refine (flip_c _ _ _ _ q2.out _).mono ?_
    rintro e wv17 ⟨rfl, hb⟩; refine ⟨_, rfl, ?_⟩
    replace HB := Aside0.mk (HB.out.step hb); clear hb
    refine hK.out _ _ ⟨HB.out.c0 0 rfl, HB.out.c1 0 rfl, HB.out.c0 1 rfl, HB.out.c1 1 rfl, HB.out.c0 2 rfl, HB.out.c1 2 rfl, HB.out.c0 3 rfl, HB.out.c1 3 rfl, HB.out.c0 4 rfl, HB.out.c1 4 rfl, HB.out.c0 5 rfl, HB.out.c1 5 rfl, HB.out.c0 6 rfl, HB.out.c1 6 rfl, HB.out.c0 7 rfl, HB.out.c1 7 rfl⟩ (fun hHeld => ?_)
    clear hK K
    refine norm_ (a' := ?_) ?_ ?_; rotate_left
    · show Act.put _ (some 96) _ = _; simp only [Act.put, zA, zB, zC, i64_w, i32_w]; rfl
    refine pure_ (i := 50) (N := some 97) (v := ?_) (a' := ?_) (bl 77 2251799813685247) rfl rfl (by as_aux_lemma => kernel_rfl) (fun _ _ _ h => h) (Or.inl ⟨by rfl, ?_⟩) ?_ ?_
    rotate_left
    · intro w'; go_simp; with_reducible rfl
    rotate_left
    · simp only [Act.put, zA, zB, zC, i64_w, i32_w]; rfl
    refine pure_ (i := 51) (N := some 98) (v := ?_) (a' := ?_) (bl 77 4503599627370495) rfl rfl (by as_aux_lemma => kernel_rfl) (fun _ _ _ h => h) (Or.inl ⟨by rfl, ?_⟩) ?_ ?_
    rotate_left
    · intro w'; go_simp; with_reducible rfl
    rotate_left
    · simp only [Act.put, zA, zB, zC, i64_w, i32_w]; rfl
    refine pure_ (i := 52) (N := some 99) (v := ?_) (a' := ?_) (bl 77 9007199254740991) rfl rfl (by as_aux_lemma => kernel_rfl) (fun _ _ _ h => h) (Or.inl ⟨by rfl, ?_⟩) ?_ ?_
    rotate_left
    · intro w'; go_simp; with_reducible rfl
    rotate_left
    · simp only [Act.put, zA, zB, zC, i64_w, i32_w]; rfl
    refine pure_ (i := 54) (N := some 101) (v := ?_) (a' := ?_) (bl 77 27021597764222975) rfl rfl (by as_aux_lemma => kernel_rfl) (fun _ _ _ h => h) (Or.inl ⟨by rfl, ?_⟩) ?_ ?_
    rotate_left
    · intro w'; go_simp; with_reducible rfl
    rotate_left
    · simp only [Act.put, zA, zB, zC, i64_w, i32_w]; rfl
    refine take_ (i := 53) (N := some 100) (v := ?_) (a' := ?_) (bl 77 36028797018963967) rfl rfl (by as_aux_lemma => kernel_rfl) (fun _ _ _ h => h) (Or.inl ⟨by rfl, ?_⟩) hHeld ?_ ?_
    rotate_left
    · rintro w' ⟨s0, s1, s2, s3, s4, s5, s6, s7, s8, s9, s10, s11, s12, s13, s14, s15⟩; go_simp; with_reducible rfl
    rotate_left
    · simp only [Act.put, zA, zB, zC, i64_w, i32_w]; rfl
    refine take_ (i := 55) (N := some 102) (v := ?_) (a' := ?_) (bl 77 72057594037927935) rfl rfl (by as_aux_lemma => kernel_rfl) (fun _ _ _ h => h) (Or.inl ⟨by rfl, ?_⟩) hHeld ?_ ?_
    rotate_left
    · rintro w' ⟨s0, s1, s2, s3, s4, s5, s6, s7, s8, s9, s10, s11, s12, s13, s14, s15⟩; go_simp; with_reducible rfl
    rotate_left
    · simp only [Act.put, zA, zB, zC, i64_w, i32_w]; rfl
    refine one_ (i := 56) (N := some 103) (bl 77 144115188075855871) rfl rfl (by as_aux_lemma => kernel_rfl) (by decide) (fun K hK => ?_)
    refine goesV_ Try.func43 (by as_aux_lemma => kernel_rfl) rfl #[.agg #[.int .i32 e1, .int .i32 e2]] (by rfl) rfl rfl rfl (by (try simp only [List.map_toArray, List.map_cons, List.map_nil]); first | done | rfl) ?_
    with_reducible refine (flip_c _ _ _ _ q3.out _).mono ?_
    rintro e wv18 ⟨rfl, hb⟩; refine ⟨_, rfl, ?_⟩
    replace HB := Aside0.mk (HB.out.step hb); clear hb
    refine hK.out _ _ ⟨HB.out.c0 0 rfl, HB.out.c1 0 rfl, HB.out.c0 1 rfl, HB.out.c1 1 rfl, HB.out.c0 2 rfl, HB.out.c1 2 rfl, HB.out.c0 3 rfl, HB.out.c1 3 rfl, HB.out.c0 4 rfl, HB.out.c1 4 rfl, HB.out.c0 5 rfl, HB.out.c1 5 rfl, HB.out.c0 6 rfl, HB.out.c1 6 rfl, HB.out.c0 7 rfl, HB.out.c1 7 rfl⟩ (fun hHeld => ?_)
    clear hK K
    refine norm_ (a' := ?_) ?_ ?_; rotate_left
    · show Act.put _ (some 103) _ = _; simp only [Act.put, zA, zB, zC, i64_w, i32_w]; rfl
    refine pure_ (i := 57) (N := some 104) (v := ?_) (a' := ?_) (bl 77 288230376151711743) rfl rfl (by as_aux_lemma => kernel_rfl) (fun _ _ _ h => h) (Or.inl ⟨by rfl, ?_⟩) ?_ ?_
    rotate_left
    · intro w'; go_simp; with_reducible rfl
    rotate_left
    · simp only [Act.put, zA, zB, zC, i64_w, i32_w]; rfl
    refine pure_ (i := 58) (N := some 105) (v := ?_) (a' := ?_) (bl 77 576460752303423487) rfl rfl (by as_aux_lemma => kernel_rfl) (fun _ _ _ h => h) (Or.inl ⟨by rfl, ?_⟩) ?_ ?_
    rotate_left
    · intro w'; go_simp; with_reducible rfl
    rotate_left
    · simp only [Act.put, zA, zB, zC, i64_w, i32_w]; rfl
    refine pure_ (i := 59) (N := some 106) (v := ?_) (a' := ?_) (bl 77 1152921504606846975) rfl rfl (by as_aux_lemma => kernel_rfl) (fun _ _ _ h => h) (Or.inl ⟨by rfl, ?_⟩) ?_ ?_
    rotate_left
    · intro w'; go_simp; with_reducible rfl
    rotate_left
    · simp only [Act.put, zA, zB, zC, i64_w, i32_w]; rfl
    refine pure_ (i := 62) (N := some 109) (v := ?_) (a' := ?_) (bl 77 5764607523034234879) rfl rfl (by as_aux_lemma => kernel_rfl) (fun _ _ _ h => h) (Or.inl ⟨by rfl, ?_⟩) ?_ ?_
    rotate_left
    · intro w'; go_simp; with_reducible rfl
    rotate_left
    · simp only [Act.put, zA, zB, zC, i64_w, i32_w]; rfl
    refine pure_ (i := 64) (N := some 111) (v := ?_) (a' := ?_) (bl 77 24211351596743786495) rfl rfl (by as_aux_lemma => kernel_rfl) (fun _ _ _ h => h) (Or.inl ⟨by rfl, ?_⟩) ?_ ?_
    rotate_left
    · intro w'; go_simp; with_reducible rfl
    rotate_left
    · simp only [Act.put, zA, zB, zC, i64_w, i32_w]; rfl
    refine take_ (i := 60) (N := some 107) (v := ?_) (a' := ?_) (bl 77 25364273101350633471) rfl rfl (by as_aux_lemma => kernel_rfl) (fun _ _ _ h => h) (Or.inl ⟨by rfl, ?_⟩) hHeld ?_ ?_
    rotate_left
    · rintro w' ⟨s0, s1, s2, s3, s4, s5, s6, s7, s8, s9, s10, s11, s12, s13, s14, s15⟩; go_simp; with_reducible rfl
    rotate_left
    · simp only [Act.put, zA, zB, zC, i64_w, i32_w]; rfl
    refine take_ (i := 63) (N := some 110) (v := ?_) (a' := ?_) (bl 77 34587645138205409279) rfl rfl (by as_aux_lemma => kernel_rfl) (fun _ _ _ h => h) (Or.inl ⟨by rfl, ?_⟩) hHeld ?_ ?_
    rotate_left
    · rintro w' ⟨s0, s1, s2, s3, s4, s5, s6, s7, s8, s9, s10, s11, s12, s13, s14, s15⟩; go_simp; with_reducible rfl
    rotate_left
    · simp only [Act.put, zA, zB, zC, i64_w, i32_w]; rfl
    refine take_ (i := 65) (N := some 112) (v := ?_) (a' := ?_) (bl 77 71481133285624512511) rfl rfl (by as_aux_lemma => kernel_rfl) (fun _ _ _ h => h) (Or.inl ⟨by rfl, ?_⟩) hHeld ?_ ?_
    rotate_left
    · rintro w' ⟨s0, s1, s2, s3, s4, s5, s6, s7, s8, s9, s10, s11, s12, s13, s14, s15⟩; go_simp; with_reducible rfl
    rotate_left
    · simp only [Act.put, zA, zB, zC, i64_w, i32_w]; rfl
    refine pure_ (i := 66) (N := some 113) (v := ?_) (a' := ?_) (bl 77 145268109580462718975) rfl rfl (by as_aux_lemma => kernel_rfl) (fun _ _ _ h => h) (Or.inl ⟨by rfl, ?_⟩) ?_ ?_
    rotate_left
    · intro w'; go_simp; with_reducible rfl
    rotate_left
    · simp only [Act.put, zA, zB, zC, i64_w, i32_w]; rfl
    refine one_ (i := 61) (N := some 108) (bl 77 147573952589676412927) rfl rfl (by as_aux_lemma => kernel_rfl) (by decide) (fun K hK => ?_)
    refine goes_ Try.func30 (by as_aux_lemma => kernel_rfl) rfl #[.agg #[.int .i32 e1, .int .i32 e2], .int .i32 1] (by rfl) rfl rfl (by (try simp only [List.map_toArray, List.map_cons, List.map_nil]); first | done | rfl) ?_
    with_reducible refine (contains_c _ _ _ _ k6.out _).mono ?_
    rintro e wv19 ⟨rfl, hb⟩; refine ⟨_, rfl, ?_⟩
    replace HB := Aside0.mk (HB.out.step hb); clear hb
    refine hK.out _ _ ⟨HB.out.c0 0 rfl, HB.out.c1 0 rfl, HB.out.c0 1 rfl, HB.out.c1 1 rfl, HB.out.c0 2 rfl, HB.out.c1 2 rfl, HB.out.c0 3 rfl, HB.out.c1 3 rfl, HB.out.c0 4 rfl, HB.out.c1 4 rfl, HB.out.c0 5 rfl, HB.out.c1 5 rfl, HB.out.c0 6 rfl, HB.out.c1 6 rfl, HB.out.c0 7 rfl, HB.out.c1 7 rfl⟩ (fun hHeld => ?_)
    clear hK K
    refine norm_ (a' := ?_) ?_ ?_; rotate_left
    · show Act.put _ (some 108) _ = _; simp only [Act.put, zA, zB, zC, i64_w, i32_w]; rfl
    refine pure_ (i := 67) (N := some 114) (v := ?_) (a' := ?_) (bl 77 295147905179352825855) rfl rfl (by as_aux_lemma => kernel_rfl) (fun _ _ _ h => h) (Or.inl ⟨by rfl, ?_⟩) ?_ ?_
    rotate_left
    · intro w'; go_simp; with_reducible rfl
    rotate_left
    · simp only [Act.put, zA, zB, zC, i64_w, i32_w]; rfl
    refine pure_ (i := 68) (N := some 115) (v := undef) (a' := ?_) (bl 77 590295810358705651711) rfl rfl (by as_aux_lemma => kernel_rfl) (fun _ _ _ h => h) (Or.inr ⟨by rfl, rfl⟩) ?_ ?_
    rotate_left
    · simp only [Act.put, zA, zB, zC, i64_w, i32_w]; rfl
    refine pure_ (i := 69) (N := some 116) (v := undef) (a' := ?_) (bl 77 1180591620717411303423) rfl rfl (by as_aux_lemma => kernel_rfl) (fun _ _ _ h => h) (Or.inr ⟨by rfl, rfl⟩) ?_ ?_
    rotate_left
    · simp only [Act.put, zA, zB, zC, i64_w, i32_w]; rfl
    refine pure_ (i := 70) (N := some 117) (v := undef) (a' := ?_) (bl 77 2361183241434822606847) rfl rfl (by as_aux_lemma => kernel_rfl) (fun _ _ _ h => h) (Or.inr ⟨by rfl, rfl⟩) ?_ ?_
    rotate_left
    · simp only [Act.put, zA, zB, zC, i64_w, i32_w]; rfl
    refine pure_ (i := 71) (N := some 118) (v := undef) (a' := ?_) (bl 77 4722366482869645213695) rfl rfl (by as_aux_lemma => kernel_rfl) (fun _ _ _ h => h) (Or.inr ⟨by rfl, rfl⟩) ?_ ?_
    rotate_left
    · simp only [Act.put, zA, zB, zC, i64_w, i32_w]; rfl
    refine pure_ (i := 72) (N := some 119) (v := undef) (a' := ?_) (bl 77 9444732965739290427391) rfl rfl (by as_aux_lemma => kernel_rfl) (fun _ _ _ h => h) (Or.inr ⟨by rfl, rfl⟩) ?_ ?_
    rotate_left
    · simp only [Act.put, zA, zB, zC, i64_w, i32_w]; rfl
    refine pure_ (i := 73) (N := some 120) (v := ?_) (a' := ?_) (bl 77 18889465931478580854783) rfl rfl (by as_aux_lemma => kernel_rfl) (fun _ _ _ h => h) (Or.inl ⟨by rfl, ?_⟩) ?_ ?_
    rotate_left
    · intro w'; go_simp; with_reducible rfl
    rotate_left
    · simp only [Act.put, zA, zB, zC, i64_w, i32_w]; rfl
    refine pure_ (i := 74) (N := some 121) (v := ?_) (a' := ?_) (bl 77 37778931862957161709567) rfl rfl (by as_aux_lemma => kernel_rfl) (fun _ _ _ h => h) (Or.inl ⟨by rfl, ?_⟩) ?_ ?_
    rotate_left
    · intro w'; go_simp; with_reducible rfl
    rotate_left
    · simp only [Act.put, zA, zB, zC, i64_w, i32_w]; rfl
    refine pure_ (i := 75) (N := some 122) (v := ?_) (a' := ?_) (bl 77 75557863725914323419135) rfl rfl (by as_aux_lemma => kernel_rfl) (fun _ _ _ h => h) (Or.inl ⟨by rfl, ?_⟩) ?_ ?_
    rotate_left
    · intro w'; go_simp; with_reducible rfl
    rotate_left
    · simp only [Act.put, zA, zB, zC, i64_w, i32_w]; rfl
    refine pure_ (i := 76) (N := some 4) (v := ?_) (a' := ?_) (bl 77 151115727451828646838271) rfl rfl (by as_aux_lemma => kernel_rfl) (fun _ _ _ h => h) (Or.inl ⟨by rfl, ?_⟩) ?_ ?_
    rotate_left
    · intro w'; go_simp; with_reducible rfl
    rotate_left
    · simp only [Act.put, zA, zB, zC, i64_w, i32_w]; rfl
    refine done_ (by as_aux_lemma => kernel_rfl) ?_
    have C := HB.out.cl
    simp only [Cl, and_true] at C
    obtain ⟨_, _, _, _, _, _, _, _, _, _, _, _, _, _, _, _, _, _, _, _, _, _, _, _, _, _, _, _, _, _, _, _⟩ := C
    go_wp2_with fail
    go_ret
    exact ⟨by first | rfl | (simp; done) | (simp [*]; done), HB.out.below⟩
  | true =>
    have k6 : Aside0 (hasv e1 e2 1 = t2) := ⟨k5.out⟩
    replace HB := Aside0.mk (HB.out.drew)
    refine start_ (n := 77) (S := fun w' => w'.cell? ⟨w.heap.size, 0, none⟩ = some (.int .i32 a1) ∧ w'.cell? ⟨w.heap.size, 1, none⟩ = some (.int .i32 b1) ∧ w'.cell? ⟨w.heap.size + 1, 0, none⟩ = some (.int .i32 a2) ∧ w'.cell? ⟨w.heap.size + 1, 1, none⟩ = some (.int .i32 b2) ∧ w'.cell? ⟨g5, 0, none⟩ = some (.int .i32 l1) ∧ w'.cell? ⟨g5, 1, none⟩ = some (.int .i32 l2) ∧ w'.cell? ⟨g6, 0, none⟩ = some (.int .i32 g1) ∧ w'.cell? ⟨g6, 1, none⟩ = some (.int .i32 g2) ∧ w'.cell? ⟨g7, 0, none⟩ = some (.int .i32 m1) ∧ w'.cell? ⟨g7, 1, none⟩ = some (.int .i32 m2) ∧ w'.cell? ⟨g8, 0, none⟩ = some (.int .i32 n1) ∧ w'.cell? ⟨g8, 1, none⟩ = some (.int .i32 n2) ∧ w'.cell? ⟨g9, 0, none⟩ = some (.int .i32 e1) ∧ w'.cell? ⟨g9, 1, none⟩ = some (.int .i32 e2) ∧ w'.cell? ⟨g10, 0, none⟩ = some (.int .i32 f1) ∧ w'.cell? ⟨g10, 1, none⟩ = some (.int .i32 f2)) (ds := []) #[false, false, false, false, false, false, false, false, false, false, false, false, false, false, false, false, false, false, false, false, false, false, false, false, false, false, false, false, false, false, false, false, false, false, false, false, false, false, false, false, false, false, false, false, false, false, false, false, false, false, false, false, false, false, false, false, false, false, false, false, false, false, false, false, false, false, false, false, false, false, false, false, false, false, false, false, false] (by as_aux_lemma => kernel_rfl) rfl rfl ⟨HB.out.c0 0 rfl, HB.out.c1 0 rfl, HB.out.c0 1 rfl, HB.out.c1 1 rfl, HB.out.c0 2 rfl, HB.out.c1 2 rfl, HB.out.c0 3 rfl, HB.out.c1 3 rfl, HB.out.c0 4 rfl, HB.out.c1 4 rfl, HB.out.c0 5 rfl, HB.out.c1 5 rfl, HB.out.c0 6 rfl, HB.out.c1 6 rfl, HB.out.c0 7 rfl, HB.out.c1 7 rfl⟩ (fun hHeld => ?_)
    generalize wv9.drew = wv11 at HB hHeld ⊢
    refine pure_ (i := 2) (N := some 49) (v := ?_) (a' := ?_) (bl 77 4) rfl rfl (by as_aux_lemma => kernel_rfl) (fun _ _ _ h => h) (Or.inl ⟨by rfl, ?_⟩) ?_ ?_
    rotate_left
    · intro w'; go_simp; with_reducible rfl
    rotate_left
    · simp only [Act.put, zA, zB, zC, i64_w, i32_w]; rfl
    refine pure_ (i := 4) (N := some 51) (v := ?_) (a' := ?_) (bl 77 20) rfl rfl (by as_aux_lemma => kernel_rfl) (fun _ _ _ h => h) (Or.inl ⟨by rfl, ?_⟩) ?_ ?_
    rotate_left
    · intro w'; go_simp; with_reducible rfl
    rotate_left
    · simp only [Act.put, zA, zB, zC, i64_w, i32_w]; rfl
    refine take_ (i := 0) (N := some 47) (v := ?_) (a' := ?_) (bl 77 21) rfl rfl (by as_aux_lemma => kernel_rfl) (fun _ _ _ h => h) (Or.inl ⟨by rfl, ?_⟩) hHeld ?_ ?_
    rotate_left
    · rintro w' ⟨s0, s1, s2, s3, s4, s5, s6, s7, s8, s9, s10, s11, s12, s13, s14, s15⟩; go_simp; with_reducible rfl
    rotate_left
    · simp only [Act.put, zA, zB, zC, i64_w, i32_w]; rfl
    refine take_ (i := 3) (N := some 50) (v := ?_) (a' := ?_) (bl 77 29) rfl rfl (by as_aux_lemma => kernel_rfl) (fun _ _ _ h => h) (Or.inl ⟨by rfl, ?_⟩) hHeld ?_ ?_
    rotate_left
    · rintro w' ⟨s0, s1, s2, s3, s4, s5, s6, s7, s8, s9, s10, s11, s12, s13, s14, s15⟩; go_simp; with_reducible rfl
    rotate_left
    · simp only [Act.put, zA, zB, zC, i64_w, i32_w]; rfl
    refine take_ (i := 5) (N := some 52) (v := ?_) (a' := ?_) (bl 77 61) rfl rfl (by as_aux_lemma => kernel_rfl) (fun _ _ _ h => h) (Or.inl ⟨by rfl, ?_⟩) hHeld ?_ ?_
    rotate_left
    · rintro w' ⟨s0, s1, s2, s3, s4, s5, s6, s7, s8, s9, s10, s11, s12, s13, s14, s15⟩; go_simp; with_reducible rfl
    rotate_left
    · simp only [Act.put, zA, zB, zC, i64_w, i32_w]; rfl
    refine pure_ (i := 6) (N := some 53) (v := ?_) (a' := ?_) (bl 77 125) rfl rfl (by as_aux_lemma => kernel_rfl) (fun _ _ _ h => h) (Or.inl ⟨by rfl, ?_⟩) ?_ ?_
    rotate_left
    · intro w'; go_simp; with_reducible rfl
    rotate_left
    · simp only [Act.put, zA, zB, zC, i64_w, i32_w]; rfl
    refine one_ (i := 1) (N := some 48) (bl 77 127) rfl rfl (by as_aux_lemma => kernel_rfl) (by decide) (fun K hK => ?_)
    refine goes_ Try.func30 (by as_aux_lemma => kernel_rfl) rfl #[.agg #[.int .i32 l1, .int .i32 l2], .int .i32 1] (by rfl) rfl rfl (by (try simp only [List.map_toArray, List.map_cons, List.map_nil]); first | done | rfl) ?_
    with_reducible refine (contains_c _ _ _ _ k1.out _).mono ?_
    rintro e wv12 ⟨rfl, hb⟩; refine ⟨_, rfl, ?_⟩
    replace HB := Aside0.mk (HB.out.step hb); clear hb
    refine hK.out _ _ ⟨HB.out.c0 0 rfl, HB.out.c1 0 rfl, HB.out.c0 1 rfl, HB.out.c1 1 rfl, HB.out.c0 2 rfl, HB.out.c1 2 rfl, HB.out.c0 3 rfl, HB.out.c1 3 rfl, HB.out.c0 4 rfl, HB.out.c1 4 rfl, HB.out.c0 5 rfl, HB.out.c1 5 rfl, HB.out.c0 6 rfl, HB.out.c1 6 rfl, HB.out.c0 7 rfl, HB.out.c1 7 rfl⟩ (fun hHeld => ?_)
    clear hK K
    refine norm_ (a' := ?_) ?_ ?_; rotate_left
    · show Act.put _ (some 48) _ = _; simp only [Act.put, zA, zB, zC, i64_w, i32_w]; rfl
    refine pure_ (i := 7) (N := some 54) (v := ?_) (a' := ?_) (bl 77 255) rfl rfl (by as_aux_lemma => kernel_rfl) (fun _ _ _ h => h) (Or.inl ⟨by rfl, ?_⟩) ?_ ?_
    rotate_left
    · intro w'; go_simp; with_reducible rfl
    rotate_left
    · simp only [Act.put, zA, zB, zC, i64_w, i32_w]; rfl
    refine pure_ (i := 8) (N := some 55) (v := ?_) (a' := ?_) (bl 77 511) rfl rfl (by as_aux_lemma => kernel_rfl) (fun _ _ _ h => h) (Or.inl ⟨by rfl, ?_⟩) ?_ ?_
    rotate_left
    · intro w'; go_simp; with_reducible rfl
    rotate_left
    · simp only [Act.put, zA, zB, zC, i64_w, i32_w]; rfl
    refine pure_ (i := 11) (N := some 58) (v := ?_) (a' := ?_) (bl 77 2559) rfl rfl (by as_aux_lemma => kernel_rfl) (fun _ _ _ h => h) (Or.inl ⟨by rfl, ?_⟩) ?_ ?_
    rotate_left
    · intro w'; go_simp; with_reducible rfl
    rotate_left
    · simp only [Act.put, zA, zB, zC, i64_w, i32_w]; rfl
    refine pure_ (i := 13) (N := some 60) (v := ?_) (a' := ?_) (bl 77 10751) rfl rfl (by as_aux_lemma => kernel_rfl) (fun _ _ _ h => h) (Or.inl ⟨by rfl, ?_⟩) ?_ ?_
    rotate_left
    · intro w'; go_simp; with_reducible rfl
    rotate_left
    · simp only [Act.put, zA, zB, zC, i64_w, i32_w]; rfl
    refine take_ (i := 9) (N := some 56) (v := ?_) (a' := ?_) (bl 77 11263) rfl rfl (by as_aux_lemma => kernel_rfl) (fun _ _ _ h => h) (Or.inl ⟨by rfl, ?_⟩) hHeld ?_ ?_
    rotate_left
    · rintro w' ⟨s0, s1, s2, s3, s4, s5, s6, s7, s8, s9, s10, s11, s12, s13, s14, s15⟩; go_simp; with_reducible rfl
    rotate_left
    · simp only [Act.put, zA, zB, zC, i64_w, i32_w]; rfl
    refine take_ (i := 12) (N := some 59) (v := ?_) (a' := ?_) (bl 77 15359) rfl rfl (by as_aux_lemma => kernel_rfl) (fun _ _ _ h => h) (Or.inl ⟨by rfl, ?_⟩) hHeld ?_ ?_
    rotate_left
    · rintro w' ⟨s0, s1, s2, s3, s4, s5, s6, s7, s8, s9, s10, s11, s12, s13, s14, s15⟩; go_simp; with_reducible rfl
    rotate_left
    · simp only [Act.put, zA, zB, zC, i64_w, i32_w]; rfl
    refine take_ (i := 14) (N := some 61) (v := ?_) (a' := ?_) (bl 77 31743) rfl rfl (by as_aux_lemma => kernel_rfl) (fun _ _ _ h => h) (Or.inl ⟨by rfl, ?_⟩) hHeld ?_ ?_
    rotate_left
    · rintro w' ⟨s0, s1, s2, s3, s4, s5, s6, s7, s8, s9, s10, s11, s12, s13, s14, s15⟩; go_simp; with_reducible rfl
    rotate_left
    · simp only [Act.put, zA, zB, zC, i64_w, i32_w]; rfl
    refine pure_ (i := 15) (N := some 62) (v := ?_) (a' := ?_) (bl 77 64511) rfl rfl (by as_aux_lemma => kernel_rfl) (fun _ _ _ h => h) (Or.inl ⟨by rfl, ?_⟩) ?_ ?_
    rotate_left
    · intro w'; go_simp; with_reducible rfl
    rotate_left
    · simp only [Act.put, zA, zB, zC, i64_w, i32_w]; rfl
    refine one_ (i := 10) (N := some 57) (bl 77 65535) rfl rfl (by as_aux_lemma => kernel_rfl) (by decide) (fun K hK => ?_)
    refine goes_ Try.func30 (by as_aux_lemma => kernel_rfl) rfl #[.agg #[.int .i32 l1, .int .i32 l2], .int .i32 0] (by rfl) rfl rfl (by (try simp only [List.map_toArray, List.map_cons, List.map_nil]); first | done | rfl) ?_
    with_reducible refine (contains_c _ _ _ _ k2.out _).mono ?_
    rintro e wv13 ⟨rfl, hb⟩; refine ⟨_, rfl, ?_⟩
    replace HB := Aside0.mk (HB.out.step hb); clear hb
    refine hK.out _ _ ⟨HB.out.c0 0 rfl, HB.out.c1 0 rfl, HB.out.c0 1 rfl, HB.out.c1 1 rfl, HB.out.c0 2 rfl, HB.out.c1 2 rfl, HB.out.c0 3 rfl, HB.out.c1 3 rfl, HB.out.c0 4 rfl, HB.out.c1 4 rfl, HB.out.c0 5 rfl, HB.out.c1 5 rfl, HB.out.c0 6 rfl, HB.out.c1 6 rfl, HB.out.c0 7 rfl, HB.out.c1 7 rfl⟩ (fun hHeld => ?_)
    clear hK K
    refine norm_ (a' := ?_) ?_ ?_; rotate_left
    · show Act.put _ (some 57) _ = _; simp only [Act.put, zA, zB, zC, i64_w, i32_w]; rfl
    refine pure_ (i := 16) (N := some 63) (v := ?_) (a' := ?_) (bl 77 131071) rfl rfl (by as_aux_lemma => kernel_rfl) (fun _ _ _ h => h) (Or.inl ⟨by rfl, ?_⟩) ?_ ?_
    rotate_left
    · intro w'; go_simp; with_reducible rfl
    rotate_left
    · simp only [Act.put, zA, zB, zC, i64_w, i32_w]; rfl
    refine pure_ (i := 17) (N := some 64) (v := ?_) (a' := ?_) (bl 77 262143) rfl rfl (by as_aux_lemma => kernel_rfl) (fun _ _ _ h => h) (Or.inl ⟨by rfl, ?_⟩) ?_ ?_
    rotate_left
    · intro w'; go_simp; with_reducible rfl
    rotate_left
    · simp only [Act.put, zA, zB, zC, i64_w, i32_w]; rfl
    refine pure_ (i := 18) (N := some 65) (v := ?_) (a' := ?_) (bl 77 524287) rfl rfl (by as_aux_lemma => kernel_rfl) (fun _ _ _ h => h) (Or.inl ⟨by rfl, ?_⟩) ?_ ?_
    rotate_left
    · intro w'; go_simp; with_reducible rfl
    rotate_left
    · simp only [Act.put, zA, zB, zC, i64_w, i32_w]; rfl
    refine pure_ (i := 21) (N := some 68) (v := ?_) (a' := ?_) (bl 77 2621439) rfl rfl (by as_aux_lemma => kernel_rfl) (fun _ _ _ h => h) (Or.inl ⟨by rfl, ?_⟩) ?_ ?_
    rotate_left
    · intro w'; go_simp; with_reducible rfl
    rotate_left
    · simp only [Act.put, zA, zB, zC, i64_w, i32_w]; rfl
    refine pure_ (i := 23) (N := some 70) (v := ?_) (a' := ?_) (bl 77 11010047) rfl rfl (by as_aux_lemma => kernel_rfl) (fun _ _ _ h => h) (Or.inl ⟨by rfl, ?_⟩) ?_ ?_
    rotate_left
    · intro w'; go_simp; with_reducible rfl
    rotate_left
    · simp only [Act.put, zA, zB, zC, i64_w, i32_w]; rfl
    refine take_ (i := 19) (N := some 66) (v := ?_) (a' := ?_) (bl 77 11534335) rfl rfl (by as_aux_lemma => kernel_rfl) (fun _ _ _ h => h) (Or.inl ⟨by rfl, ?_⟩) hHeld ?_ ?_
    rotate_left
    · rintro w' ⟨s0, s1, s2, s3, s4, s5, s6, s7, s8, s9, s10, s11, s12, s13, s14, s15⟩; go_simp; with_reducible rfl
    rotate_left
    · simp only [Act.put, zA, zB, zC, i64_w, i32_w]; rfl
    refine take_ (i := 22) (N := some 69) (v := ?_) (a' := ?_) (bl 77 15728639) rfl rfl (by as_aux_lemma => kernel_rfl) (fun _ _ _ h => h) (Or.inl ⟨by rfl, ?_⟩) hHeld ?_ ?_
    rotate_left
    · rintro w' ⟨s0, s1, s2, s3, s4, s5, s6, s7, s8, s9, s10, s11, s12, s13, s14, s15⟩; go_simp; with_reducible rfl
    rotate_left
    · simp only [Act.put, zA, zB, zC, i64_w, i32_w]; rfl
    refine take_ (i := 24) (N := some 71) (v := ?_) (a' := ?_) (bl 77 32505855) rfl rfl (by as_aux_lemma => kernel_rfl) (fun _ _ _ h => h) (Or.inl ⟨by rfl, ?_⟩) hHeld ?_ ?_
    rotate_left
    · rintro w' ⟨s0, s1, s2, s3, s4, s5, s6, s7, s8, s9, s10, s11, s12, s13, s14, s15⟩; go_simp; with_reducible rfl
    rotate_left
    · simp only [Act.put, zA, zB, zC, i64_w, i32_w]; rfl
    refine pure_ (i := 25) (N := some 72) (v := ?_) (a' := ?_) (bl 77 66060287) rfl rfl (by as_aux_lemma => kernel_rfl) (fun _ _ _ h => h) (Or.inl ⟨by rfl, ?_⟩) ?_ ?_
    rotate_left
    · intro w'; go_simp; with_reducible rfl
    rotate_left
    · simp only [Act.put, zA, zB, zC, i64_w, i32_w]; rfl
    refine one_ (i := 20) (N := some 67) (bl 77 67108863) rfl rfl (by as_aux_lemma => kernel_rfl) (by decide) (fun K hK => ?_)
    refine goes_ Try.func30 (by as_aux_lemma => kernel_rfl) rfl #[.agg #[.int .i32 m1, .int .i32 m2], .int .i32 1] (by rfl) rfl rfl (by (try simp only [List.map_toArray, List.map_cons, List.map_nil]); first | done | rfl) ?_
    with_reducible refine (contains_c _ _ _ _ k3.out _).mono ?_
    rintro e wv14 ⟨rfl, hb⟩; refine ⟨_, rfl, ?_⟩
    replace HB := Aside0.mk (HB.out.step hb); clear hb
    refine hK.out _ _ ⟨HB.out.c0 0 rfl, HB.out.c1 0 rfl, HB.out.c0 1 rfl, HB.out.c1 1 rfl, HB.out.c0 2 rfl, HB.out.c1 2 rfl, HB.out.c0 3 rfl, HB.out.c1 3 rfl, HB.out.c0 4 rfl, HB.out.c1 4 rfl, HB.out.c0 5 rfl, HB.out.c1 5 rfl, HB.out.c0 6 rfl, HB.out.c1 6 rfl, HB.out.c0 7 rfl, HB.out.c1 7 rfl⟩ (fun hHeld => ?_)
    clear hK K
    refine norm_ (a' := ?_) ?_ ?_; rotate_left
    · show Act.put _ (some 67) _ = _; simp only [Act.put, zA, zB, zC, i64_w, i32_w]; rfl
    refine pure_ (i := 26) (N := some 73) (v := ?_) (a' := ?_) (bl 77 134217727) rfl rfl (by as_aux_lemma => kernel_rfl) (fun _ _ _ h => h) (Or.inl ⟨by rfl, ?_⟩) ?_ ?_
    rotate_left
    · intro w'; go_simp; with_reducible rfl
    rotate_left
    · simp only [Act.put, zA, zB, zC, i64_w, i32_w]; rfl
    refine pure_ (i := 27) (N := some 74) (v := ?_) (a' := ?_) (bl 77 268435455) rfl rfl (by as_aux_lemma => kernel_rfl) (fun _ _ _ h => h) (Or.inl ⟨by rfl, ?_⟩) ?_ ?_
    rotate_left
    · intro w'; go_simp; with_reducible rfl
    rotate_left
    · simp only [Act.put, zA, zB, zC, i64_w, i32_w]; rfl
    refine pure_ (i := 28) (N := some 75) (v := ?_) (a' := ?_) (bl 77 536870911) rfl rfl (by as_aux_lemma => kernel_rfl) (fun _ _ _ h => h) (Or.inl ⟨by rfl, ?_⟩) ?_ ?_
    rotate_left
    · intro w'; go_simp; with_reducible rfl
    rotate_left
    · simp only [Act.put, zA, zB, zC, i64_w, i32_w]; rfl
    refine pure_ (i := 31) (N := some 78) (v := ?_) (a' := ?_) (bl 77 2684354559) rfl rfl (by as_aux_lemma => kernel_rfl) (fun _ _ _ h => h) (Or.inl ⟨by rfl, ?_⟩) ?_ ?_
    rotate_left
    · intro w'; go_simp; with_reducible rfl
    rotate_left
    · simp only [Act.put, zA, zB, zC, i64_w, i32_w]; rfl
    refine pure_ (i := 33) (N := some 80) (v := ?_) (a' := ?_) (bl 77 11274289151) rfl rfl (by as_aux_lemma => kernel_rfl) (fun _ _ _ h => h) (Or.inl ⟨by rfl, ?_⟩) ?_ ?_
    rotate_left
    · intro w'; go_simp; with_reducible rfl
    rotate_left
    · simp only [Act.put, zA, zB, zC, i64_w, i32_w]; rfl
    refine take_ (i := 29) (N := some 76) (v := ?_) (a' := ?_) (bl 77 11811160063) rfl rfl (by as_aux_lemma => kernel_rfl) (fun _ _ _ h => h) (Or.inl ⟨by rfl, ?_⟩) hHeld ?_ ?_
    rotate_left
    · rintro w' ⟨s0, s1, s2, s3, s4, s5, s6, s7, s8, s9, s10, s11, s12, s13, s14, s15⟩; go_simp; with_reducible rfl
    rotate_left
    · simp only [Act.put, zA, zB, zC, i64_w, i32_w]; rfl
    refine take_ (i := 32) (N := some 79) (v := ?_) (a' := ?_) (bl 77 16106127359) rfl rfl (by as_aux_lemma => kernel_rfl) (fun _ _ _ h => h) (Or.inl ⟨by rfl, ?_⟩) hHeld ?_ ?_
    rotate_left
    · rintro w' ⟨s0, s1, s2, s3, s4, s5, s6, s7, s8, s9, s10, s11, s12, s13, s14, s15⟩; go_simp; with_reducible rfl
    rotate_left
    · simp only [Act.put, zA, zB, zC, i64_w, i32_w]; rfl
    refine take_ (i := 34) (N := some 81) (v := ?_) (a' := ?_) (bl 77 33285996543) rfl rfl (by as_aux_lemma => kernel_rfl) (fun _ _ _ h => h) (Or.inl ⟨by rfl, ?_⟩) hHeld ?_ ?_
    rotate_left
    · rintro w' ⟨s0, s1, s2, s3, s4, s5, s6, s7, s8, s9, s10, s11, s12, s13, s14, s15⟩; go_simp; with_reducible rfl
    rotate_left
    · simp only [Act.put, zA, zB, zC, i64_w, i32_w]; rfl
    refine pure_ (i := 35) (N := some 82) (v := ?_) (a' := ?_) (bl 77 67645734911) rfl rfl (by as_aux_lemma => kernel_rfl) (fun _ _ _ h => h) (Or.inl ⟨by rfl, ?_⟩) ?_ ?_
    rotate_left
    · intro w'; go_simp; with_reducible rfl
    rotate_left
    · simp only [Act.put, zA, zB, zC, i64_w, i32_w]; rfl
    refine one_ (i := 30) (N := some 77) (bl 77 68719476735) rfl rfl (by as_aux_lemma => kernel_rfl) (by decide) (fun K hK => ?_)
    refine goes_ Try.func30 (by as_aux_lemma => kernel_rfl) rfl #[.agg #[.int .i32 m1, .int .i32 m2], .int .i32 0] (by rfl) rfl rfl (by (try simp only [List.map_toArray, List.map_cons, List.map_nil]); first | done | rfl) ?_
    with_reducible refine (contains_c _ _ _ _ k4.out _).mono ?_
    rintro e wv15 ⟨rfl, hb⟩; refine ⟨_, rfl, ?_⟩
    replace HB := Aside0.mk (HB.out.step hb); clear hb
    refine hK.out _ _ ⟨HB.out.c0 0 rfl, HB.out.c1 0 rfl, HB.out.c0 1 rfl, HB.out.c1 1 rfl, HB.out.c0 2 rfl, HB.out.c1 2 rfl, HB.out.c0 3 rfl, HB.out.c1 3 rfl, HB.out.c0 4 rfl, HB.out.c1 4 rfl, HB.out.c0 5 rfl, HB.out.c1 5 rfl, HB.out.c0 6 rfl, HB.out.c1 6 rfl, HB.out.c0 7 rfl, HB.out.c1 7 rfl⟩ (fun hHeld => ?_)
    clear hK K
    refine norm_ (a' := ?_) ?_ ?_; rotate_left
    · show Act.put _ (some 77) _ = _; simp only [Act.put, zA, zB, zC, i64_w, i32_w]; rfl
    refine pure_ (i := 36) (N := some 83) (v := ?_) (a' := ?_) (bl 77 137438953471) rfl rfl (by as_aux_lemma => kernel_rfl) (fun _ _ _ h => h) (Or.inl ⟨by rfl, ?_⟩) ?_ ?_
    rotate_left
    · intro w'; go_simp; with_reducible rfl
    rotate_left
    · simp only [Act.put, zA, zB, zC, i64_w, i32_w]; rfl
    refine pure_ (i := 37) (N := some 84) (v := ?_) (a' := ?_) (bl 77 274877906943) rfl rfl (by as_aux_lemma => kernel_rfl) (fun _ _ _ h => h) (Or.inl ⟨by rfl, ?_⟩) ?_ ?_
    rotate_left
    · intro w'; go_simp; with_reducible rfl
    rotate_left
    · simp only [Act.put, zA, zB, zC, i64_w, i32_w]; rfl
    refine pure_ (i := 38) (N := some 85) (v := ?_) (a' := ?_) (bl 77 549755813887) rfl rfl (by as_aux_lemma => kernel_rfl) (fun _ _ _ h => h) (Or.inl ⟨by rfl, ?_⟩) ?_ ?_
    rotate_left
    · intro w'; go_simp; with_reducible rfl
    rotate_left
    · simp only [Act.put, zA, zB, zC, i64_w, i32_w]; rfl
    refine pure_ (i := 40) (N := some 87) (v := ?_) (a' := ?_) (bl 77 1649267441663) rfl rfl (by as_aux_lemma => kernel_rfl) (fun _ _ _ h => h) (Or.inl ⟨by rfl, ?_⟩) ?_ ?_
    rotate_left
    · intro w'; go_simp; with_reducible rfl
    rotate_left
    · simp only [Act.put, zA, zB, zC, i64_w, i32_w]; rfl
    refine take_ (i := 39) (N := some 86) (v := ?_) (a' := ?_) (bl 77 2199023255551) rfl rfl (by as_aux_lemma => kernel_rfl) (fun _ _ _ h => h) (Or.inl ⟨by rfl, ?_⟩) hHeld ?_ ?_
    rotate_left
    · rintro w' ⟨s0, s1, s2, s3, s4, s5, s6, s7, s8, s9, s10, s11, s12, s13, s14, s15⟩; go_simp; with_reducible rfl
    rotate_left
    · simp only [Act.put, zA, zB, zC, i64_w, i32_w]; rfl
    refine take_ (i := 41) (N := some 88) (v := ?_) (a' := ?_) (bl 77 4398046511103) rfl rfl (by as_aux_lemma => kernel_rfl) (fun _ _ _ h => h) (Or.inl ⟨by rfl, ?_⟩) hHeld ?_ ?_
    rotate_left
    · rintro w' ⟨s0, s1, s2, s3, s4, s5, s6, s7, s8, s9, s10, s11, s12, s13, s14, s15⟩; go_simp; with_reducible rfl
    rotate_left
    · simp only [Act.put, zA, zB, zC, i64_w, i32_w]; rfl
    refine one_ (i := 42) (N := some 89) (bl 77 8796093022207) rfl rfl (by as_aux_lemma => kernel_rfl) (by decide) (fun K hK => ?_)
    refine goesV_ Try.func43 (by as_aux_lemma => kernel_rfl) rfl #[.agg #[.int .i32 l1, .int .i32 l2]] (by rfl) rfl rfl rfl (by (try simp only [List.map_toArray, List.map_cons, List.map_nil]); first | done | rfl) ?_
    with_reducible refine (flip_c _ _ _ _ q1.out _).mono ?_
    rintro e wv16 ⟨rfl, hb⟩; refine ⟨_, rfl, ?_⟩
    replace HB := Aside0.mk (HB.out.step hb); clear hb
    refine hK.out _ _ ⟨HB.out.c0 0 rfl, HB.out.c1 0 rfl, HB.out.c0 1 rfl, HB.out.c1 1 rfl, HB.out.c0 2 rfl, HB.out.c1 2 rfl, HB.out.c0 3 rfl, HB.out.c1 3 rfl, HB.out.c0 4 rfl, HB.out.c1 4 rfl, HB.out.c0 5 rfl, HB.out.c1 5 rfl, HB.out.c0 6 rfl, HB.out.c1 6 rfl, HB.out.c0 7 rfl, HB.out.c1 7 rfl⟩ (fun hHeld => ?_)
    clear hK K
    refine norm_ (a' := ?_) ?_ ?_; rotate_left
    · show Act.put _ (some 89) _ = _; simp only [Act.put, zA, zB, zC, i64_w, i32_w]; rfl
    refine pure_ (i := 43) (N := some 90) (v := ?_) (a' := ?_) (bl 77 17592186044415) rfl rfl (by as_aux_lemma => kernel_rfl) (fun _ _ _ h => h) (Or.inl ⟨by rfl, ?_⟩) ?_ ?_
    rotate_left
    · intro w'; go_simp; with_reducible rfl
    rotate_left
    · simp only [Act.put, zA, zB, zC, i64_w, i32_w]; rfl
    refine pure_ (i := 44) (N := some 91) (v := ?_) (a' := ?_) (bl 77 35184372088831) rfl rfl (by as_aux_lemma => kernel_rfl) (fun _ _ _ h => h) (Or.inl ⟨by rfl, ?_⟩) ?_ ?_
    rotate_left
    · intro w'; go_simp; with_reducible rfl
    rotate_left
    · simp only [Act.put, zA, zB, zC, i64_w, i32_w]; rfl
    refine pure_ (i := 45) (N := some 92) (v := ?_) (a' := ?_) (bl 77 70368744177663) rfl rfl (by as_aux_lemma => kernel_rfl) (fun _ _ _ h => h) (Or.inl ⟨by rfl, ?_⟩) ?_ ?_
    rotate_left
    · intro w'; go_simp; with_reducible rfl
    rotate_left
    · simp only [Act.put, zA, zB, zC, i64_w, i32_w]; rfl
    refine pure_ (i := 47) (N := some 94) (v := ?_) (a' := ?_) (bl 77 211106232532991) rfl rfl (by as_aux_lemma => kernel_rfl) (fun _ _ _ h => h) (Or.inl ⟨by rfl, ?_⟩) ?_ ?_
    rotate_left
    · intro w'; go_simp; with_reducible rfl
    rotate_left
    · simp only [Act.put, zA, zB, zC, i64_w, i32_w]; rfl
    refine take_ (i := 46) (N := some 93) (v := ?_) (a' := ?_) (bl 77 281474976710655) rfl rfl (by as_aux_lemma => kernel_rfl) (fun _ _ _ h => h) (Or.inl ⟨by rfl, ?_⟩) hHeld ?_ ?_
    rotate_left
    · rintro w' ⟨s0, s1, s2, s3, s4, s5, s6, s7, s8, s9, s10, s11, s12, s13, s14, s15⟩; go_simp; with_reducible rfl
    rotate_left
    · simp only [Act.put, zA, zB, zC, i64_w, i32_w]; rfl
    refine take_ (i := 48) (N := some 95) (v := ?_) (a' := ?_) (bl 77 562949953421311) rfl rfl (by as_aux_lemma => kernel_rfl) (fun _ _ _ h => h) (Or.inl ⟨by rfl, ?_⟩) hHeld ?_ ?_
    rotate_left
    · rintro w' ⟨s0, s1, s2, s3, s4, s5, s6, s7, s8, s9, s10, s11, s12, s13, s14, s15⟩; go_simp; with_reducible rfl
    rotate_left
    · simp only [Act.put, zA, zB, zC, i64_w, i32_w]; rfl
    refine one_ (i := 49) (N := some 96) (bl 77 1125899906842623) rfl rfl (by as_aux_lemma => kernel_rfl) (by decide) (fun K hK => ?_)
    refine goesV_ Try.func43 (by as_aux_lemma => kernel_rfl) rfl #[.agg #[.int .i32 m1, .int .i32 m2]] (by rfl) rfl rfl rfl (by (try simp only [List.map_toArray, List.map_cons, List.map_nil]); first | done | rfl) ?_
    with_reducible refine (flip_c _ _ _ _ q2.out _).mono ?_
    rintro e wv17 ⟨rfl, hb⟩; refine ⟨_, rfl, ?_⟩
    replace HB := Aside0.mk (HB.out.step hb); clear hb
    refine hK.out _ _ ⟨HB.out.c0 0 rfl, HB.out.c1 0 rfl, HB.out.c0 1 rfl, HB.out.c1 1 rfl, HB.out.c0 2 rfl, HB.out.c1 2 rfl, HB.out.c0 3 rfl, HB.out.c1 3 rfl, HB.out.c0 4 rfl, HB.out.c1 4 rfl, HB.out.c0 5 rfl, HB.out.c1 5 rfl, HB.out.c0 6 rfl, HB.out.c1 6 rfl, HB.out.c0 7 rfl, HB.out.c1 7 rfl⟩ (fun hHeld => ?_)
    clear hK K
    refine norm_ (a' := ?_) ?_ ?_; rotate_left
    · show Act.put _ (some 96) _ = _; simp only [Act.put, zA, zB, zC, i64_w, i32_w]; rfl
    refine pure_ (i := 50) (N := some 97) (v := ?_) (a' := ?_) (bl 77 2251799813685247) rfl rfl (by as_aux_lemma => kernel_rfl) (fun _ _ _ h => h) (Or.inl ⟨by rfl, ?_⟩) ?_ ?_
    rotate_left
    · intro w'; go_simp; with_reducible rfl
    rotate_left
    · simp only [Act.put, zA, zB, zC, i64_w, i32_w]; rfl
    refine pure_ (i := 51) (N := some 98) (v := ?_) (a' := ?_) (bl 77 4503599627370495) rfl rfl (by as_aux_lemma => kernel_rfl) (fun _ _ _ h => h) (Or.inl ⟨by rfl, ?_⟩) ?_ ?_
    rotate_left
    · intro w'; go_simp; with_reducible rfl
    rotate_left
    · simp only [Act.put, zA, zB, zC, i64_w, i32_w]; rfl
    refine pure_ (i := 52) (N := some 99) (v := ?_) (a' := ?_) (bl 77 9007199254740991) rfl rfl (by as_aux_lemma => kernel_rfl) (fun _ _ _ h => h) (Or.inl ⟨by rfl, ?_⟩) ?_ ?_
    rotate_left
    · intro w'; go_simp; with_reducible rfl
    rotate_left
    · simp only [Act.put, zA, zB, zC, i64_w, i32_w]; rfl
    refine pure_ (i := 54) (N := some 101) (v := ?_) (a' := ?_) (bl 77 27021597764222975) rfl rfl (by as_aux_lemma => kernel_rfl) (fun _ _ _ h => h) (Or.inl ⟨by rfl, ?_⟩) ?_ ?_
    rotate_left
    · intro w'; go_simp; with_reducible rfl
    rotate_left
    · simp only [Act.put, zA, zB, zC, i64_w, i32_w]; rfl
    refine take_ (i := 53) (N := some 100) (v := ?_) (a' := ?_) (bl 77 36028797018963967) rfl rfl (by as_aux_lemma => kernel_rfl) (fun _ _ _ h => h) (Or.inl ⟨by rfl, ?_⟩) hHeld ?_ ?_
    rotate_left
    · rintro w' ⟨s0, s1, s2, s3, s4, s5, s6, s7, s8, s9, s10, s11, s12, s13, s14, s15⟩; go_simp; with_reducible rfl
    rotate_left
    · simp only [Act.put, zA, zB, zC, i64_w, i32_w]; rfl
    refine take_ (i := 55) (N := some 102) (v := ?_) (a' := ?_) (bl 77 72057594037927935) rfl rfl (by as_aux_lemma => kernel_rfl) (fun _ _ _ h => h) (Or.inl ⟨by rfl, ?_⟩) hHeld ?_ ?_
    rotate_left
    · rintro w' ⟨s0, s1, s2, s3, s4, s5, s6, s7, s8, s9, s10, s11, s12, s13, s14, s15⟩; go_simp; with_reducible rfl
    rotate_left
    · simp only [Act.put, zA, zB, zC, i64_w, i32_w]; rfl
    refine one_ (i := 56) (N := some 103) (bl 77 144115188075855871) rfl rfl (by as_aux_lemma => kernel_rfl) (by decide) (fun K hK => ?_)
    refine goesV_ Try.func43 (by as_aux_lemma => kernel_rfl) rfl #[.agg #[.int .i32 e1, .int .i32 e2]] (by rfl) rfl rfl rfl (by (try simp only [List.map_toArray, List.map_cons, List.map_nil]); first | done | rfl) ?_
    with_reducible refine (flip_c _ _ _ _ q3.out _).mono ?_
    rintro e wv18 ⟨rfl, hb⟩; refine ⟨_, rfl, ?_⟩
    replace HB := Aside0.mk (HB.out.step hb); clear hb
    refine hK.out _ _ ⟨HB.out.c0 0 rfl, HB.out.c1 0 rfl, HB.out.c0 1 rfl, HB.out.c1 1 rfl, HB.out.c0 2 rfl, HB.out.c1 2 rfl, HB.out.c0 3 rfl, HB.out.c1 3 rfl, HB.out.c0 4 rfl, HB.out.c1 4 rfl, HB.out.c0 5 rfl, HB.out.c1 5 rfl, HB.out.c0 6 rfl, HB.out.c1 6 rfl, HB.out.c0 7 rfl, HB.out.c1 7 rfl⟩ (fun hHeld => ?_)
    clear hK K
    refine norm_ (a' := ?_) ?_ ?_; rotate_left
    · show Act.put _ (some 103) _ = _; simp only [Act.put, zA, zB, zC, i64_w, i32_w]; rfl
    refine pure_ (i := 57) (N := some 104) (v := ?_) (a' := ?_) (bl 77 288230376151711743) rfl rfl (by as_aux_lemma => kernel_rfl) (fun _ _ _ h => h) (Or.inl ⟨by rfl, ?_⟩) ?_ ?_
    rotate_left
    · intro w'; go_simp; with_reducible rfl
    rotate_left
    · simp only [Act.put, zA, zB, zC, i64_w, i32_w]; rfl
    refine pure_ (i := 58) (N := some 105) (v := ?_) (a' := ?_) (bl 77 576460752303423487) rfl rfl (by as_aux_lemma => kernel_rfl) (fun _ _ _ h => h) (Or.inl ⟨by rfl, ?_⟩) ?_ ?_
    rotate_left
    · intro w'; go_simp; with_reducible rfl
    rotate_left
    · simp only [Act.put, zA, zB, zC, i64_w, i32_w]; rfl
    refine pure_ (i := 59) (N := some 106) (v := ?_) (a' := ?_) (bl 77 1152921504606846975) rfl rfl (by as_aux_lemma => kernel_rfl) (fun _ _ _ h => h) (Or.inl ⟨by rfl, ?_⟩) ?_ ?_
    rotate_left
    · intro w'; go_simp; with_reducible rfl
    rotate_left
    · simp only [Act.put, zA, zB, zC, i64_w, i32_w]; rfl
    refine pure_ (i := 62) (N := some 109) (v := ?_) (a' := ?_) (bl 77 5764607523034234879) rfl rfl (by as_aux_lemma => kernel_rfl) (fun _ _ _ h => h) (Or.inl ⟨by rfl, ?_⟩) ?_ ?_
    rotate_left
    · intro w'; go_simp; with_reducible rfl
    rotate_left
    · simp only [Act.put, zA, zB, zC, i64_w, i32_w]; rfl
    refine pure_ (i := 64) (N := some 111) (v := ?_) (a' := ?_) (bl 77 24211351596743786495) rfl rfl (by as_aux_lemma => kernel_rfl) (fun _ _ _ h => h) (Or.inl ⟨by rfl, ?_⟩) ?_ ?_
    rotate_left
    · intro w'; go_simp; with_reducible rfl
    rotate_left
    · simp only [Act.put, zA, zB, zC, i64_w, i32_w]; rfl
    refine take_ (i := 60) (N := some 107) (v := ?_) (a' := ?_) (bl 77 25364273101350633471) rfl rfl (by as_aux_lemma => kernel_rfl) (fun _ _ _ h => h) (Or.inl ⟨by rfl, ?_⟩) hHeld ?_ ?_
    rotate_left
    · rintro w' ⟨s0, s1, s2, s3, s4, s5, s6, s7, s8, s9, s10, s11, s12, s13, s14, s15⟩; go_simp; with_reducible rfl
    rotate_left
    · simp only [Act.put, zA, zB, zC, i64_w, i32_w]; rfl
    refine take_ (i := 63) (N := some 110) (v := ?_) (a' := ?_) (bl 77 34587645138205409279) rfl rfl (by as_aux_lemma => kernel_rfl) (fun _ _ _ h => h) (Or.inl ⟨by rfl, ?_⟩) hHeld ?_ ?_
    rotate_left
    · rintro w' ⟨s0, s1, s2, s3, s4, s5, s6, s7, s8, s9, s10, s11, s12, s13, s14, s15⟩; go_simp; with_reducible rfl
    rotate_left
    · simp only [Act.put, zA, zB, zC, i64_w, i32_w]; rfl
    refine take_ (i := 65) (N := some 112) (v := ?_) (a' := ?_) (bl 77 71481133285624512511) rfl rfl (by as_aux_lemma => kernel_rfl) (fun _ _ _ h => h) (Or.inl ⟨by rfl, ?_⟩) hHeld ?_ ?_
    rotate_left
    · rintro w' ⟨s0, s1, s2, s3, s4, s5, s6, s7, s8, s9, s10, s11, s12, s13, s14, s15⟩; go_simp; with_reducible rfl
    rotate_left
    · simp only [Act.put, zA, zB, zC, i64_w, i32_w]; rfl
    refine pure_ (i := 66) (N := some 113) (v := ?_) (a' := ?_) (bl 77 145268109580462718975) rfl rfl (by as_aux_lemma => kernel_rfl) (fun _ _ _ h => h) (Or.inl ⟨by rfl, ?_⟩) ?_ ?_
    rotate_left
    · intro w'; go_simp; with_reducible rfl
    rotate_left
    · simp only [Act.put, zA, zB, zC, i64_w, i32_w]; rfl
    refine one_ (i := 61) (N := some 108) (bl 77 147573952589676412927) rfl rfl (by as_aux_lemma => kernel_rfl) (by decide) (fun K hK => ?_)
    refine goes_ Try.func30 (by as_aux_lemma => kernel_rfl) rfl #[.agg #[.int .i32 e1, .int .i32 e2], .int .i32 1] (by rfl) rfl rfl (by (try simp only [List.map_toArray, List.map_cons, List.map_nil]); first | done | rfl) ?_
    with_reducible refine (contains_c _ _ _ _ k6.out _).mono ?_
    rintro e wv19 ⟨rfl, hb⟩; refine ⟨_, rfl, ?_⟩
    replace HB := Aside0.mk (HB.out.step hb); clear hb
    refine hK.out _ _ ⟨HB.out.c0 0 rfl, HB.out.c1 0 rfl, HB.out.c0 1 rfl, HB.out.c1 1 rfl, HB.out.c0 2 rfl, HB.out.c1 2 rfl, HB.out.c0 3 rfl, HB.out.c1 3 rfl, HB.out.c0 4 rfl, HB.out.c1 4 rfl, HB.out.c0 5 rfl, HB.out.c1 5 rfl, HB.out.c0 6 rfl, HB.out.c1 6 rfl, HB.out.c0 7 rfl, HB.out.c1 7 rfl⟩ (fun hHeld => ?_)
    clear hK K
    refine norm_ (a' := ?_) ?_ ?_; rotate_left
    · show Act.put _ (some 108) _ = _; simp only [Act.put, zA, zB, zC, i64_w, i32_w]; rfl
    refine pure_ (i := 67) (N := some 114) (v := ?_) (a' := ?_) (bl 77 295147905179352825855) rfl rfl (by as_aux_lemma => kernel_rfl) (fun _ _ _ h => h) (Or.inl ⟨by rfl, ?_⟩) ?_ ?_
    rotate_left
    · intro w'; go_simp; with_reducible rfl
    rotate_left
    · simp only [Act.put, zA, zB, zC, i64_w, i32_w]; rfl
    refine pure_ (i := 68) (N := some 115) (v := ?_) (a' := ?_) (bl 77 590295810358705651711) rfl rfl (by as_aux_lemma => kernel_rfl) (fun _ _ _ h => h) (Or.inl ⟨by rfl, ?_⟩) ?_ ?_
    rotate_left
    · intro w'; go_simp; with_reducible rfl
    rotate_left
    · simp only [Act.put, zA, zB, zC, i64_w, i32_w]; rfl
    refine pure_ (i := 70) (N := some 117) (v := ?_) (a' := ?_) (bl 77 1770887431076116955135) rfl rfl (by as_aux_lemma => kernel_rfl) (fun _ _ _ h => h) (Or.inl ⟨by rfl, ?_⟩) ?_ ?_
    rotate_left
    · intro w'; go_simp; with_reducible rfl
    rotate_left
    · simp only [Act.put, zA, zB, zC, i64_w, i32_w]; rfl
    refine take_ (i := 69) (N := some 116) (v := ?_) (a' := ?_) (bl 77 2361183241434822606847) rfl rfl (by as_aux_lemma => kernel_rfl) (fun _ _ _ h => h) (Or.inl ⟨by rfl, ?_⟩) hHeld ?_ ?_
    rotate_left
    · rintro w' ⟨s0, s1, s2, s3, s4, s5, s6, s7, s8, s9, s10, s11, s12, s13, s14, s15⟩; go_simp; with_reducible rfl
    rotate_left
    · simp only [Act.put, zA, zB, zC, i64_w, i32_w]; rfl
    refine take_ (i := 71) (N := some 118) (v := ?_) (a' := ?_) (bl 77 4722366482869645213695) rfl rfl (by as_aux_lemma => kernel_rfl) (fun _ _ _ h => h) (Or.inl ⟨by rfl, ?_⟩) hHeld ?_ ?_
    rotate_left
    · rintro w' ⟨s0, s1, s2, s3, s4, s5, s6, s7, s8, s9, s10, s11, s12, s13, s14, s15⟩; go_simp; with_reducible rfl
    rotate_left
    · simp only [Act.put, zA, zB, zC, i64_w, i32_w]; rfl
    refine pure_ (i := 72) (N := some 119) (v := ?_) (a' := ?_) (bl 77 9444732965739290427391) rfl rfl (by as_aux_lemma => kernel_rfl) (fun _ _ _ h => h) (Or.inl ⟨by rfl, ?_⟩) ?_ ?_
    rotate_left
    · intro w'; go_simp; with_reducible rfl
    rotate_left
    · simp only [Act.put, zA, zB, zC, i64_w, i32_w]; rfl
    refine pure_ (i := 73) (N := some 120) (v := ?_) (a' := ?_) (bl 77 18889465931478580854783) rfl rfl (by as_aux_lemma => kernel_rfl) (fun _ _ _ h => h) (Or.inl ⟨by rfl, ?_⟩) ?_ ?_
    rotate_left
    · intro w'; go_simp; with_reducible rfl
    rotate_left
    · simp only [Act.put, zA, zB, zC, i64_w, i32_w]; rfl
    refine pure_ (i := 74) (N := some 121) (v := ?_) (a' := ?_) (bl 77 37778931862957161709567) rfl rfl (by as_aux_lemma => kernel_rfl) (fun _ _ _ h => h) (Or.inl ⟨by rfl, ?_⟩) ?_ ?_
    rotate_left
    · intro w'; go_simp; with_reducible rfl
    rotate_left
    · simp only [Act.put, zA, zB, zC, i64_w, i32_w]; rfl
    refine pure_ (i := 75) (N := some 122) (v := ?_) (a' := ?_) (bl 77 75557863725914323419135) rfl rfl (by as_aux_lemma => kernel_rfl) (fun _ _ _ h => h) (Or.inl ⟨by rfl, ?_⟩) ?_ ?_
    rotate_left
    · intro w'; go_simp; with_reducible rfl
    rotate_left
    · simp only [Act.put, zA, zB, zC, i64_w, i32_w]; rfl
    refine pure_ (i := 76) (N := some 4) (v := ?_) (a' := ?_) (bl 77 151115727451828646838271) rfl rfl (by as_aux_lemma => kernel_rfl) (fun _ _ _ h => h) (Or.inl ⟨by rfl, ?_⟩) ?_ ?_
    rotate_left
    · intro w'; go_simp; with_reducible rfl
    rotate_left
    · simp only [Act.put, zA, zB, zC, i64_w, i32_w]; rfl
    refine done_ (by as_aux_lemma => kernel_rfl) ?_
    have C := HB.out.cl
    simp only [Cl, and_true] at C
    obtain ⟨_, _, _, _, _, _, _, _, _, _, _, _, _, _, _, _, _, _, _, _, _, _, _, _, _, _, _, _, _, _, _, _⟩ := C
    go_wp2_with fail
    go_ret
    exact ⟨by first | rfl | (simp; done) | (simp [*]; done), HB.out.below⟩

theorem iv_lt {a b c d : Int} (e1 : a ≤ b) (e2 : c ≤ d) : iv 18 a b c d = truthv (decide (b < c)) (decide (d ≤ a)) ∧ iv 21 a b c d = truthv (decide (d ≤ a)) (decide (b < c)) := by
  unfold iv
  by_cases s : a = b ∧ c = d
  · obtain ⟨rfl, rfl⟩ := s
    by_cases h : a < c
    · have h' : ¬ c ≤ a := by omega
      simp [wv, truthv, tr, h, h']
    · have h' : c ≤ a := by omega
      simp [wv, truthv, tr, h, h']
  · have n : ¬ (b < a ∨ d < c) := by omega
    simp [s, n, decv]
theorem iv_le {a b c d : Int} (e1 : a ≤ b) (e2 : c ≤ d) : iv 19 a b c d = truthv (decide (b ≤ c)) (decide (d < a)) ∧ iv 20 a b c d = truthv (decide (d < a)) (decide (b ≤ c)) := by
  unfold iv
  by_cases s : a = b ∧ c = d
  · obtain ⟨rfl, rfl⟩ := s
    by_cases h : a ≤ c
    · have h' : ¬ c < a := by omega
      simp [wv, truthv, tr, h, h']
    · have h' : c < a := by omega
      simp [wv, truthv, tr, h, h']
  · have n : ¬ (b < a ∨ d < c) := by omega
    simp [s, n, decv]
theorem iv_eq {a b c d : Int} (e1 : a ≤ b) (e2 : c ≤ d) : ∃ A N : Bool, iv 16 a b c d = truthv A N ∧ iv 17 a b c d = truthv N A ∧ ¬ (A = true ∧ N = true) ∧ (!N) = decide (a ≤ d ∧ c ≤ b) := by
  by_cases s : a = b ∧ c = d
  · obtain ⟨rfl, rfl⟩ := s
    refine ⟨decide (a = c), decide (a ≠ c), ?_, ?_, ?_, ?_⟩
    · unfold iv; by_cases h : a = c <;> simp [wv, truthv, tr, h]
    · unfold iv; by_cases h : a = c <;> simp [wv, truthv, tr, h]
    · by_cases h : a = c <;> simp [h]
    · by_cases h : a = c
      · simp [h]
      · have : ¬ (a ≤ c ∧ c ≤ a) := by omega
        simp [h, this]
  · have n : ¬ (b < a ∨ d < c) := by omega
    refine ⟨false, apartv a b c d, ?_, ?_, ?_, ?_⟩
    · unfold iv; simp [s, n, decv]
    · unfold iv; simp [s, n, decv]
    · simp
    · unfold apartv meetv
      by_cases h : min b d < max a c
      · rw [if_pos (by omega), decide_eq_true (by decide)]
        exact (decide_eq_false (by omega)).symm
      · rw [if_neg (by omega), decide_eq_false (by simp only; omega)]
        exact (decide_eq_true (by omega)).symm
theorem tv {A N : Bool} {p : Int × Int} (h : truthv A N = p) (n : ¬ (A = true ∧ N = true)) : hasv p.1 p.2 1 = (!N) ∧ hasv p.1 p.2 0 = (!A) ∧ (∀ q : Int × Int, truthv N A = q → Flip p.1 p.2 q.1 q.2) := by
  subst h
  cases A <;> cases N
  · exact ⟨rfl, rfl, fun q hq => by subst hq; unfold Flip truthv; simp⟩
  · exact ⟨rfl, rfl, fun q hq => by subst hq; unfold Flip truthv; simp⟩
  · exact ⟨rfl, rfl, fun q hq => by subst hq; unfold Flip truthv; simp⟩
  · exact absurd ⟨rfl, rfl⟩ n
theorem walk (a1 b1 a2 b2 : Int) (w : World) (wa : (Lit.int .i32 a1).wf = true) (wb : (Lit.int .i32 b1).wf = true) (wc : (Lit.int .i32 a2).wf = true) (wd : (Lit.int .i32 b2).wf = true) : Calls Try.prog 16 #[.agg #[.int .i32 a1, .int .i32 b1], .agg #[.int .i32 a2, .int .i32 b2]] w fun e w' => e = .returned (.bool true) ∧ Below w.heap.size w w' := by
  have ia := i32_wf wa
  have ib := i32_wf wb
  have ic := i32_wf wc
  have id := i32_wf wd
  by_cases e1 : b1 < a1
  · exact empty0 a1 b1 a2 b2 (decide_eq_true e1) w
  by_cases e2 : b2 < a2
  · exact empty1 a1 b1 a2 b2 (decide_eq_false e1) (decide_eq_true e2) w
  have e1' : a1 ≤ b1 := by omega
  have e2' : a2 ≤ b2 := by omega
  obtain ⟨x1, x2⟩ := iv_lt e1' e2'
  obtain ⟨x3, x4⟩ := iv_le e1' e2'
  obtain ⟨A, N, x5, x6, nn, x7⟩ := iv_eq e1' e2'
  obtain ⟨y1, y2, y3⟩ := tv x1.symm (by simp only [decide_eq_true_eq]; omega)
  obtain ⟨z1, z2, z3⟩ := tv x3.symm (by simp only [decide_eq_true_eq]; omega)
  obtain ⟨v1, _, v3⟩ := tv x5.symm nn
  have n1 : ∀ {p q : Prop} [Decidable p] [Decidable q], (p ↔ ¬ q) → (!decide q) = decide p := by
    intro p q _ _ h; by_cases hq : q <;> simp [hq, h]
  rw [n1 (p := a1 < b2) (by omega)] at y1
  rw [n1 (p := a2 ≤ b1) (by omega)] at y2
  rw [n1 (p := a1 ≤ b2) (by omega)] at z1
  rw [n1 (p := a2 < b1) (by omega)] at z2
  rw [x7] at v1
  have : decide (a1 ≤ b2 ∧ a2 ≤ b1) = (decide (a1 ≤ b2) && decide (a2 ≤ b1)) := by rw [Bool.eq_iff_iff]; simp only [Bool.and_eq_true, decide_eq_true_eq]
  rw [this] at v1
  exact main a1 b1 a2 b2 _ _ _ _ _ _ _ _ _ _ _ _ _ _ _ _ ⟨ia⟩ ⟨ib⟩ ⟨ic⟩ ⟨id⟩ ⟨rfl⟩ ⟨rfl⟩ ⟨rfl⟩ ⟨rfl⟩ ⟨rfl⟩ ⟨rfl⟩ ⟨y1⟩ ⟨y2⟩ ⟨z1⟩ ⟨z2⟩ ⟨v1⟩ ⟨y3 _ x2.symm⟩ ⟨z3 _ x4.symm⟩ ⟨v3 _ x6.symm⟩ (decide_eq_false e1) (decide_eq_false e2) rfl rfl rfl rfl w

end Go.Proofs.Ytoalomjmmlnclaa.Decides
