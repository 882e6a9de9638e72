/- The walk of 'IntervalMonotone': for every operator and every four intervals the call answers true. -/
import Derived.Test.YtoalomjmmlnclaaIvlF
import Derived.Test.YtoalomjmmlnclaaIvlMono
import Derived.Test.YtoalomjmmlnclaaPIntervalApplyx1
namespace Go.Proofs.Ytoalomjmmlnclaa.Monotone
open Go.RowKit Go.Proofs.Ytoalomjmmlnclaa.PIntervalApply Go.Proofs.YtoalomjmmlnclaaW.PrintWords Go.Proofs.YtoalomjmmlnclaaW.PrintLast Go.Proofs.YtoalomjmmlnclaaW.PrintMore
open Go.Proofs.Ytoalomjmmlnclaa.M Go.Proofs.Ytoalomjmmlnclaa.Ivl
attribute [local go_sem] max2_int min2_int max_two min_two max_three min_three max_four min_four
attribute [local go_sem high] eqA38
set_option linter.unusedVariables false
set_option linter.unusedSimpArgs false


theorem Bx.swap {w W : World} {L : List (Nat × Int × Int)} (x y : Nat × Int × Int) (h : Bx w (L ++ [x, y]) W) : Bx w (L ++ [y, x]) W := by
  refine ⟨fun n g a b hn => ?_, h.below⟩
  have hm := List.mem_of_getElem? hn
  have hm' : (g, a, b) ∈ L ++ [x, y] := by
    simp only [List.mem_append, List.mem_cons, List.not_mem_nil, or_false] at hm ⊢
    rcases hm with h1 | h1 | h1
    · exact .inl h1
    · exact .inr (.inr h1)
    · exact .inr (.inl h1)
  obtain ⟨m, hm2⟩ := List.getElem?_of_mem hm'
  exact h.blk m g a b hm2

set_option maxHeartbeats 4000000 in
set_option maxRecDepth 100000 in
theorem walk0 (op a1 b1 a2 b2 a3 b3 a4 b4 p1 q1 p2 q2 m n r0 s0 r1 s1 r2 s2 : Int) (i_a1 : Aside0 (I32 a1)) (i_b1 : Aside0 (I32 b1)) (i_a2 : Aside0 (I32 a2)) (i_b2 : Aside0 (I32 b2)) (i_p1 : Aside0 (I32 p1)) (i_q1 : Aside0 (I32 q1)) (i_p2 : Aside0 (I32 p2)) (i_q2 : Aside0 (I32 q2)) (i_m : Aside0 (I32 m)) (i_n : Aside0 (I32 n)) (hj1 : Aside0 (joinv a1 b1 a3 b3 = (p1, q1))) (hj2 : Aside0 (joinv a2 b2 a4 b4 = (p2, q2))) (hm : Aside0 (meetv a1 b1 a3 b3 = (m, n)))
    (hA : Aside0 (iv op a1 b1 a2 b2 = (r0, s0))) (hB : Aside0 (iv op p1 q1 p2 q2 = (r1, s1))) (hC : Aside0 (iv op m n a2 b2 = (r2, s2))) (k1 : Aside0 (within r0 s0 r1 s1 = true)) (k2 : Aside0 (within r2 s2 r0 s0 = true)) (w : World) :
    Calls Try.prog 17 #[.int .u8 op, .agg #[.int .i32 a1, .int .i32 b1], .agg #[.int .i32 a2, .int .i32 b2], .agg #[.int .i32 a3, .int .i32 b3], .agg #[.int .i32 a4, .int .i32 b4]] w fun e w' => e = .returned (.bool true) ∧ Below w.heap.size w w' := by
  have hu38 := Try.underlying38
  go_enter Try.func17, Try.ntmps17
  go_upto_region 1 with (fail)
  have HB := Aside0.mk (Bx.start4 w a1 b1 a2 b2 a3 b3 a4 b4)
  generalize World.alloc (World.alloc (World.alloc (World.alloc w _) _) _) _ = w0 at HB ⊢
  have C := HB.out.cl
  simp only [Cl, and_true] at C
  obtain ⟨_, _, _, _, _, _, _, _, _, _, _, _, _, _, _, _⟩ := C
  have HN := Aside0.mk (HB.out.drew)
  clear HB
  have HB := HN
  clear HN
  refine start_ (n := 10) (S := fun w' => w'.cell? ⟨w.heap.size, 0, none⟩ = some (.int .i32 a1) ∧ w'.cell? ⟨w.heap.size, 1, none⟩ = some (.int .i32 b1) ∧ w'.cell? ⟨w.heap.size + 1, 0, none⟩ = some (.int .i32 a2) ∧ w'.cell? ⟨w.heap.size + 1, 1, none⟩ = some (.int .i32 b2) ∧ w'.cell? ⟨w.heap.size + 1 + 1, 0, none⟩ = some (.int .i32 a3) ∧ w'.cell? ⟨w.heap.size + 1 + 1, 1, none⟩ = some (.int .i32 b3) ∧ w'.cell? ⟨w.heap.size + 1 + 1 + 1, 0, none⟩ = some (.int .i32 a4) ∧ w'.cell? ⟨w.heap.size + 1 + 1 + 1, 1, none⟩ = some (.int .i32 b4)) (ds := []) #[false, false, false, false, false, false, false, false, false, false] (by kernel_rfl) rfl rfl ⟨HB.out.c0 0 rfl, HB.out.c1 0 rfl, HB.out.c0 1 rfl, HB.out.c1 1 rfl, HB.out.c0 2 rfl, HB.out.c1 2 rfl, HB.out.c0 3 rfl, HB.out.c1 3 rfl⟩ (fun hHeld => ?_)
  generalize w0.drew = wv3 at HB hHeld ⊢
  refine take_ (i := 0) (N := some 13) (v := ?_) (a' := ?_) (bl 10 1) rfl rfl (by kernel_rfl) (fun _ _ _ h => h) (Or.inl ⟨by rfl, ?_⟩) hHeld ?_ ?_
  rotate_left
  · rintro w' ⟨s0, s1, s2, s3, s4, s5, s6, s7⟩
    go_simp
    with_reducible rfl
  rotate_left
  · simp only [Act.put, List.setIfInBounds_toArray, List.set_cons_zero, List.set_cons_succ, i64_w, i32_w]
    rfl
  refine take_ (i := 1) (N := some 14) (v := ?_) (a' := ?_) (bl 10 3) rfl rfl (by kernel_rfl) (fun _ _ _ h => h) (Or.inl ⟨by rfl, ?_⟩) hHeld ?_ ?_
  rotate_left
  · rintro w' ⟨s0, s1, s2, s3, s4, s5, s6, s7⟩
    go_simp
    with_reducible rfl
  rotate_left
  · simp only [Act.put, List.setIfInBounds_toArray, List.set_cons_zero, List.set_cons_succ, i64_w, i32_w]
    rfl
  refine take_ (i := 3) (N := some 16) (v := ?_) (a' := ?_) (bl 10 11) rfl rfl (by kernel_rfl) (fun _ _ _ h => h) (Or.inl ⟨by rfl, ?_⟩) hHeld ?_ ?_
  rotate_left
  · rintro w' ⟨s0, s1, s2, s3, s4, s5, s6, s7⟩
    go_simp
    with_reducible rfl
  rotate_left
  · simp only [Act.put, List.setIfInBounds_toArray, List.set_cons_zero, List.set_cons_succ, i64_w, i32_w]
    rfl
  refine take_ (i := 4) (N := some 17) (v := ?_) (a' := ?_) (bl 10 27) rfl rfl (by kernel_rfl) (fun _ _ _ h => h) (Or.inl ⟨by rfl, ?_⟩) hHeld ?_ ?_
  rotate_left
  · rintro w' ⟨s0, s1, s2, s3, s4, s5, s6, s7⟩
    go_simp
    with_reducible rfl
  rotate_left
  · simp only [Act.put, List.setIfInBounds_toArray, List.set_cons_zero, List.set_cons_succ, i64_w, i32_w]
    rfl
  refine join_ (σ := Nat × Nat) 2 (bl 10 255) (fun s => [(15, .agg #[.int .i32 p1, .int .i32 q1]), (18, .agg #[.int .i32 p2, .int .i32 q2]), (11, .pointer (some ⟨s.1, 0, none⟩)), (12, .pointer (some ⟨s.2, 0, none⟩))]) (fun s w' => Bx w [(w.heap.size, a1, b1), (w.heap.size + 1, a2, b2), (w.heap.size + 1 + 1, a3, b3), (w.heap.size + 1 + 1 + 1, a4, b4), (s.1, 0, 0), (s.2, 0, 0)] w' ∧ w.heap.size + 1 + 1 + 1 < s.1 ∧ w.heap.size + 1 + 1 + 1 < s.2 ∧ s.1 ≠ s.2) ?_ ?_
  rotate_left
  · intro hCont
    refine three_ (i := 2) (j := 6) (k := 7) (Ni := some 15) (Nj := some 11) (Nk := some 12) (bl 10 31) (bl 10 91) (bl 10 155) rfl rfl rfl rfl rfl rfl (by kernel_rfl) (by decide) (by decide) (by decide) (fun K hK => ?_) (fun K hK => ?_) (fun K hK => ?_)
    · skip
      refine goes_ Try.func26 (by kernel_rfl) rfl #[.agg #[.int .i32 a1, .int .i32 b1], .agg #[.int .i32 a3, .int .i32 b3]] (by rfl) rfl rfl (by (try simp only [List.map_toArray, List.map_cons, List.map_nil]); first | done | rfl) ?_
      with_reducible refine (join_c _ _ _ _ _ _ hj1.out _).mono ?_
      rintro e vv2 ⟨rfl, hb⟩
      refine ⟨_, rfl, ?_⟩
      have HN := Aside0.mk (HB.out.step hb)
      clear HB
      have HB := HN
      clear HN
      clear hb
      refine hK.out _ _ ⟨HB.out.c0 0 rfl, HB.out.c1 0 rfl, HB.out.c0 1 rfl, HB.out.c1 1 rfl, HB.out.c0 2 rfl, HB.out.c1 2 rfl, HB.out.c0 3 rfl, HB.out.c1 3 rfl⟩ (fun hHeld => ?_)
      clear hK K
      refine norm_ (a' := ?_) ?_ ?_
      rotate_left
      · show Act.put _ (some 15) _ = _
        simp only [Act.put, List.setIfInBounds_toArray, List.set_cons_zero, List.set_cons_succ, i64_w, i32_w]
        rfl
      refine three_ (i := 5) (j := 6) (k := 7) (Ni := some 18) (Nj := some 11) (Nk := some 12) (bl 10 63) (bl 10 95) (bl 10 159) rfl rfl rfl rfl rfl rfl (by kernel_rfl) (by decide) (by decide) (by decide) (fun K hK => ?_) (fun K hK => ?_) (fun K hK => ?_)
      · skip
        refine goes_ Try.func26 (by kernel_rfl) rfl #[.agg #[.int .i32 a2, .int .i32 b2], .agg #[.int .i32 a4, .int .i32 b4]] (by rfl) rfl rfl (by (try simp only [List.map_toArray, List.map_cons, List.map_nil]); first | done | rfl) ?_
        with_reducible refine (join_c _ _ _ _ _ _ hj2.out _).mono ?_
        rintro e vv5 ⟨rfl, hb⟩
        refine ⟨_, rfl, ?_⟩
        have HN := Aside0.mk (HB.out.step hb)
        clear HB
        have HB := HN
        clear HN
        clear hb
        refine hK.out _ _ ⟨HB.out.c0 0 rfl, HB.out.c1 0 rfl, HB.out.c0 1 rfl, HB.out.c1 1 rfl, HB.out.c0 2 rfl, HB.out.c1 2 rfl, HB.out.c0 3 rfl, HB.out.c1 3 rfl⟩ (fun hHeld => ?_)
        clear hK K
        refine norm_ (a' := ?_) ?_ ?_
        rotate_left
        · show Act.put _ (some 18) _ = _
          simp only [Act.put, List.setIfInBounds_toArray, List.set_cons_zero, List.set_cons_succ, i64_w, i32_w]
          rfl
        refine two_ (i := 6) (j := 7) (Ni := some 11) (Nj := some 12) (bl 10 127) (bl 10 191) rfl rfl rfl rfl (by kernel_rfl) (by decide) (by decide) (fun K hK => ?_) (fun K hK => ?_)
        · skip
          refine value_ (w1 := ?_) (v := ?_) (by rfl) rfl ?_ ?_
          rotate_left 2
          · go_simp
            constructor
            · rfl
            · rfl
          have hltg11_3 := blk_lt (HB.out.bk 3 rfl)
          have HN := Aside0.mk (show Bx w [(w.heap.size, a1, b1), (w.heap.size + 1, a2, b2), (w.heap.size + 1 + 1, a3, b3), (w.heap.size + 1 + 1 + 1, a4, b4), (vv5.heap.size, 0, 0)] _ from HB.out.box rfl 0 0)
          clear HB
          have HB := HN
          clear HN
          generalize World.alloc vv5 _ = vv6 at HB ⊢
          generalize vv5.heap.size = g11 at HB hltg11_3 ⊢
          refine hK.out _ _ ⟨HB.out.c0 0 rfl, HB.out.c1 0 rfl, HB.out.c0 1 rfl, HB.out.c1 1 rfl, HB.out.c0 2 rfl, HB.out.c1 2 rfl, HB.out.c0 3 rfl, HB.out.c1 3 rfl⟩ (fun hHeld => ?_)
          clear hK K
          refine norm_ (a' := ?_) ?_ ?_
          rotate_left
          · show Act.put _ (some 11) _ = _
            simp only [Act.put, List.setIfInBounds_toArray, List.set_cons_zero, List.set_cons_succ, i64_w, i32_w]
            rfl
          refine one_ (i := 7) (N := some 12) (bl 10 255) rfl rfl (by kernel_rfl) (by decide) (fun K hK => ?_)
          refine value_ (w1 := ?_) (v := ?_) (by rfl) rfl ?_ ?_
          rotate_left 2
          · go_simp
            constructor
            · rfl
            · rfl
          have hltg12_3 := blk_lt (HB.out.bk 3 rfl)
          have hltg12_4 := blk_lt (HB.out.bk 4 rfl)
          have HN := Aside0.mk (show Bx w [(w.heap.size, a1, b1), (w.heap.size + 1, a2, b2), (w.heap.size + 1 + 1, a3, b3), (w.heap.size + 1 + 1 + 1, a4, b4), (g11, 0, 0), (vv6.heap.size, 0, 0)] _ from HB.out.box rfl 0 0)
          clear HB
          have HB := HN
          clear HN
          generalize World.alloc vv6 _ = vv7 at HB ⊢
          generalize vv6.heap.size = g12 at HB hltg12_3 hltg12_4 ⊢
          refine hK.out _ _ ⟨HB.out.c0 0 rfl, HB.out.c1 0 rfl, HB.out.c0 1 rfl, HB.out.c1 1 rfl, HB.out.c0 2 rfl, HB.out.c1 2 rfl, HB.out.c0 3 rfl, HB.out.c1 3 rfl⟩ (fun hHeld => ?_)
          clear hK K
          refine norm_ (a' := ?_) ?_ ?_
          rotate_left
          · show Act.put _ (some 12) _ = _
            simp only [Act.put, List.setIfInBounds_toArray, List.set_cons_zero, List.set_cons_succ, i64_w, i32_w]
            rfl
          exact norm_ (by simp only [putAll, Act.put, List.setIfInBounds_toArray, List.set_cons_zero, List.set_cons_succ]) (hCont (g11, g12) _ ⟨HB.out, by omega, by omega, by omega⟩)
        · skip
          refine value_ (w1 := ?_) (v := ?_) (by rfl) rfl ?_ ?_
          rotate_left 2
          · go_simp
            constructor
            · rfl
            · rfl
          have hltg12_3 := blk_lt (HB.out.bk 3 rfl)
          have HN := Aside0.mk (show Bx w [(w.heap.size, a1, b1), (w.heap.size + 1, a2, b2), (w.heap.size + 1 + 1, a3, b3), (w.heap.size + 1 + 1 + 1, a4, b4), (vv5.heap.size, 0, 0)] _ from HB.out.box rfl 0 0)
          clear HB
          have HB := HN
          clear HN
          generalize World.alloc vv5 _ = vv7 at HB ⊢
          generalize vv5.heap.size = g12 at HB hltg12_3 ⊢
          refine hK.out _ _ ⟨HB.out.c0 0 rfl, HB.out.c1 0 rfl, HB.out.c0 1 rfl, HB.out.c1 1 rfl, HB.out.c0 2 rfl, HB.out.c1 2 rfl, HB.out.c0 3 rfl, HB.out.c1 3 rfl⟩ (fun hHeld => ?_)
          clear hK K
          refine norm_ (a' := ?_) ?_ ?_
          rotate_left
          · show Act.put _ (some 12) _ = _
            simp only [Act.put, List.setIfInBounds_toArray, List.set_cons_zero, List.set_cons_succ, i64_w, i32_w]
            rfl
          refine one_ (i := 6) (N := some 11) (bl 10 255) rfl rfl (by kernel_rfl) (by decide) (fun K hK => ?_)
          refine value_ (w1 := ?_) (v := ?_) (by rfl) rfl ?_ ?_
          rotate_left 2
          · go_simp
            constructor
            · rfl
            · rfl
          have hltg11_3 := blk_lt (HB.out.bk 3 rfl)
          have hltg11_4 := blk_lt (HB.out.bk 4 rfl)
          have HN := Aside0.mk (show Bx w [(w.heap.size, a1, b1), (w.heap.size + 1, a2, b2), (w.heap.size + 1 + 1, a3, b3), (w.heap.size + 1 + 1 + 1, a4, b4), (g12, 0, 0), (vv7.heap.size, 0, 0)] _ from HB.out.box rfl 0 0)
          clear HB
          have HB := HN
          clear HN
          generalize World.alloc vv7 _ = vv6 at HB ⊢
          generalize vv7.heap.size = g11 at HB hltg11_3 hltg11_4 ⊢
          refine hK.out _ _ ⟨HB.out.c0 0 rfl, HB.out.c1 0 rfl, HB.out.c0 1 rfl, HB.out.c1 1 rfl, HB.out.c0 2 rfl, HB.out.c1 2 rfl, HB.out.c0 3 rfl, HB.out.c1 3 rfl⟩ (fun hHeld => ?_)
          clear hK K
          refine norm_ (a' := ?_) ?_ ?_
          rotate_left
          · show Act.put _ (some 11) _ = _
            simp only [Act.put, List.setIfInBounds_toArray, List.set_cons_zero, List.set_cons_succ, i64_w, i32_w]
            rfl
          exact norm_ (by simp only [putAll, Act.put, List.setIfInBounds_toArray, List.set_cons_zero, List.set_cons_succ]) (hCont (g11, g12) _ ⟨Bx.swap (L := [(w.heap.size, a1, b1), (w.heap.size + 1, a2, b2), (w.heap.size + 1 + 1, a3, b3), (w.heap.size + 1 + 1 + 1, a4, b4)]) (g12, 0, 0) (g11, 0, 0) HB.out, by omega, by omega, by omega⟩)
      · skip
        refine value_ (w1 := ?_) (v := ?_) (by rfl) rfl ?_ ?_
        rotate_left 2
        · go_simp
          constructor
          · rfl
          · rfl
        have hltg11_3 := blk_lt (HB.out.bk 3 rfl)
        have HN := Aside0.mk (show Bx w [(w.heap.size, a1, b1), (w.heap.size + 1, a2, b2), (w.heap.size + 1 + 1, a3, b3), (w.heap.size + 1 + 1 + 1, a4, b4), (vv2.heap.size, 0, 0)] _ from HB.out.box rfl 0 0)
        clear HB
        have HB := HN
        clear HN
        generalize World.alloc vv2 _ = vv6 at HB ⊢
        generalize vv2.heap.size = g11 at HB hltg11_3 ⊢
        refine hK.out _ _ ⟨HB.out.c0 0 rfl, HB.out.c1 0 rfl, HB.out.c0 1 rfl, HB.out.c1 1 rfl, HB.out.c0 2 rfl, HB.out.c1 2 rfl, HB.out.c0 3 rfl, HB.out.c1 3 rfl⟩ (fun hHeld => ?_)
        clear hK K
        refine norm_ (a' := ?_) ?_ ?_
        rotate_left
        · show Act.put _ (some 11) _ = _
          simp only [Act.put, List.setIfInBounds_toArray, List.set_cons_zero, List.set_cons_succ, i64_w, i32_w]
          rfl
        refine two_ (i := 5) (j := 7) (Ni := some 18) (Nj := some 12) (bl 10 127) (bl 10 223) rfl rfl rfl rfl (by kernel_rfl) (by decide) (by decide) (fun K hK => ?_) (fun K hK => ?_)
        · skip
          refine goes_ Try.func26 (by kernel_rfl) rfl #[.agg #[.int .i32 a2, .int .i32 b2], .agg #[.int .i32 a4, .int .i32 b4]] (by rfl) rfl rfl (by (try simp only [List.map_toArray, List.map_cons, List.map_nil]); first | done | rfl) ?_
          with_reducible refine (join_c _ _ _ _ _ _ hj2.out _).mono ?_
          rintro e vv5 ⟨rfl, hb⟩
          refine ⟨_, rfl, ?_⟩
          have HN := Aside0.mk (HB.out.step hb)
          clear HB
          have HB := HN
          clear HN
          clear hb
          refine hK.out _ _ ⟨HB.out.c0 0 rfl, HB.out.c1 0 rfl, HB.out.c0 1 rfl, HB.out.c1 1 rfl, HB.out.c0 2 rfl, HB.out.c1 2 rfl, HB.out.c0 3 rfl, HB.out.c1 3 rfl⟩ (fun hHeld => ?_)
          clear hK K
          refine norm_ (a' := ?_) ?_ ?_
          rotate_left
          · show Act.put _ (some 18) _ = _
            simp only [Act.put, List.setIfInBounds_toArray, List.set_cons_zero, List.set_cons_succ, i64_w, i32_w]
            rfl
          refine one_ (i := 7) (N := some 12) (bl 10 255) rfl rfl (by kernel_rfl) (by decide) (fun K hK => ?_)
          refine value_ (w1 := ?_) (v := ?_) (by rfl) rfl ?_ ?_
          rotate_left 2
          · go_simp
            constructor
            · rfl
            · rfl
          have hltg12_3 := blk_lt (HB.out.bk 3 rfl)
          have hltg12_4 := blk_lt (HB.out.bk 4 rfl)
          have HN := Aside0.mk (show Bx w [(w.heap.size, a1, b1), (w.heap.size + 1, a2, b2), (w.heap.size + 1 + 1, a3, b3), (w.heap.size + 1 + 1 + 1, a4, b4), (g11, 0, 0), (vv5.heap.size, 0, 0)] _ from HB.out.box rfl 0 0)
          clear HB
          have HB := HN
          clear HN
          generalize World.alloc vv5 _ = vv7 at HB ⊢
          generalize vv5.heap.size = g12 at HB hltg12_3 hltg12_4 ⊢
          refine hK.out _ _ ⟨HB.out.c0 0 rfl, HB.out.c1 0 rfl, HB.out.c0 1 rfl, HB.out.c1 1 rfl, HB.out.c0 2 rfl, HB.out.c1 2 rfl, HB.out.c0 3 rfl, HB.out.c1 3 rfl⟩ (fun hHeld => ?_)
          clear hK K
          refine norm_ (a' := ?_) ?_ ?_
          rotate_left
          · show Act.put _ (some 12) _ = _
            simp only [Act.put, List.setIfInBounds_toArray, List.set_cons_zero, List.set_cons_succ, i64_w, i32_w]
            rfl
          exact norm_ (by simp only [putAll, Act.put, List.setIfInBounds_toArray, List.set_cons_zero, List.set_cons_succ]) (hCont (g11, g12) _ ⟨HB.out, by omega, by omega, by omega⟩)
        · skip
          refine value_ (w1 := ?_) (v := ?_) (by rfl) rfl ?_ ?_
          rotate_left 2
          · go_simp
            constructor
            · rfl
            · rfl
          have hltg12_3 := blk_lt (HB.out.bk 3 rfl)
          have hltg12_4 := blk_lt (HB.out.bk 4 rfl)
          have HN := Aside0.mk (show Bx w [(w.heap.size, a1, b1), (w.heap.size + 1, a2, b2), (w.heap.size + 1 + 1, a3, b3), (w.heap.size + 1 + 1 + 1, a4, b4), (g11, 0, 0), (vv6.heap.size, 0, 0)] _ from HB.out.box rfl 0 0)
          clear HB
          have HB := HN
          clear HN
          generalize World.alloc vv6 _ = vv7 at HB ⊢
          generalize vv6.heap.size = g12 at HB hltg12_3 hltg12_4 ⊢
          refine hK.out _ _ ⟨HB.out.c0 0 rfl, HB.out.c1 0 rfl, HB.out.c0 1 rfl, HB.out.c1 1 rfl, HB.out.c0 2 rfl, HB.out.c1 2 rfl, HB.out.c0 3 rfl, HB.out.c1 3 rfl⟩ (fun hHeld => ?_)
          clear hK K
          refine norm_ (a' := ?_) ?_ ?_
          rotate_left
          · show Act.put _ (some 12) _ = _
            simp only [Act.put, List.setIfInBounds_toArray, List.set_cons_zero, List.set_cons_succ, i64_w, i32_w]
            rfl
          refine one_ (i := 5) (N := some 18) (bl 10 255) rfl rfl (by kernel_rfl) (by decide) (fun K hK => ?_)
          refine goes_ Try.func26 (by kernel_rfl) rfl #[.agg #[.int .i32 a2, .int .i32 b2], .agg #[.int .i32 a4, .int .i32 b4]] (by rfl) rfl rfl (by (try simp only [List.map_toArray, List.map_cons, List.map_nil]); first | done | rfl) ?_
          with_reducible refine (join_c _ _ _ _ _ _ hj2.out _).mono ?_
          rintro e vv5 ⟨rfl, hb⟩
          refine ⟨_, rfl, ?_⟩
          have HN := Aside0.mk (HB.out.step hb)
          clear HB
          have HB := HN
          clear HN
          clear hb
          refine hK.out _ _ ⟨HB.out.c0 0 rfl, HB.out.c1 0 rfl, HB.out.c0 1 rfl, HB.out.c1 1 rfl, HB.out.c0 2 rfl, HB.out.c1 2 rfl, HB.out.c0 3 rfl, HB.out.c1 3 rfl⟩ (fun hHeld => ?_)
          clear hK K
          refine norm_ (a' := ?_) ?_ ?_
          rotate_left
          · show Act.put _ (some 18) _ = _
            simp only [Act.put, List.setIfInBounds_toArray, List.set_cons_zero, List.set_cons_succ, i64_w, i32_w]
            rfl
          exact norm_ (by simp only [putAll, Act.put, List.setIfInBounds_toArray, List.set_cons_zero, List.set_cons_succ]) (hCont (g11, g12) _ ⟨HB.out, by omega, by omega, by omega⟩)
      · skip
        refine value_ (w1 := ?_) (v := ?_) (by rfl) rfl ?_ ?_
        rotate_left 2
        · go_simp
          constructor
          · rfl
          · rfl
        have hltg12_3 := blk_lt (HB.out.bk 3 rfl)
        have HN := Aside0.mk (show Bx w [(w.heap.size, a1, b1), (w.heap.size + 1, a2, b2), (w.heap.size + 1 + 1, a3, b3), (w.heap.size + 1 + 1 + 1, a4, b4), (vv2.heap.size, 0, 0)] _ from HB.out.box rfl 0 0)
        clear HB
        have HB := HN
        clear HN
        generalize World.alloc vv2 _ = vv7 at HB ⊢
        generalize vv2.heap.size = g12 at HB hltg12_3 ⊢
        refine hK.out _ _ ⟨HB.out.c0 0 rfl, HB.out.c1 0 rfl, HB.out.c0 1 rfl, HB.out.c1 1 rfl, HB.out.c0 2 rfl, HB.out.c1 2 rfl, HB.out.c0 3 rfl, HB.out.c1 3 rfl⟩ (fun hHeld => ?_)
        clear hK K
        refine norm_ (a' := ?_) ?_ ?_
        rotate_left
        · show Act.put _ (some 12) _ = _
          simp only [Act.put, List.setIfInBounds_toArray, List.set_cons_zero, List.set_cons_succ, i64_w, i32_w]
          rfl
        refine two_ (i := 5) (j := 6) (Ni := some 18) (Nj := some 11) (bl 10 191) (bl 10 223) rfl rfl rfl rfl (by kernel_rfl) (by decide) (by decide) (fun K hK => ?_) (fun K hK => ?_)
        · skip
          refine goes_ Try.func26 (by kernel_rfl) rfl #[.agg #[.int .i32 a2, .int .i32 b2], .agg #[.int .i32 a4, .int .i32 b4]] (by rfl) rfl rfl (by (try simp only [List.map_toArray, List.map_cons, List.map_nil]); first | done | rfl) ?_
          with_reducible refine (join_c _ _ _ _ _ _ hj2.out _).mono ?_
          rintro e vv5 ⟨rfl, hb⟩
          refine ⟨_, rfl, ?_⟩
          have HN := Aside0.mk (HB.out.step hb)
          clear HB
          have HB := HN
          clear HN
          clear hb
          refine hK.out _ _ ⟨HB.out.c0 0 rfl, HB.out.c1 0 rfl, HB.out.c0 1 rfl, HB.out.c1 1 rfl, HB.out.c0 2 rfl, HB.out.c1 2 rfl, HB.out.c0 3 rfl, HB.out.c1 3 rfl⟩ (fun hHeld => ?_)
          clear hK K
          refine norm_ (a' := ?_) ?_ ?_
          rotate_left
          · show Act.put _ (some 18) _ = _
            simp only [Act.put, List.setIfInBounds_toArray, List.set_cons_zero, List.set_cons_succ, i64_w, i32_w]
            rfl
          refine one_ (i := 6) (N := some 11) (bl 10 255) rfl rfl (by kernel_rfl) (by decide) (fun K hK => ?_)
          refine value_ (w1 := ?_) (v := ?_) (by rfl) rfl ?_ ?_
          rotate_left 2
          · go_simp
            constructor
            · rfl
            · rfl
          have hltg11_3 := blk_lt (HB.out.bk 3 rfl)
          have hltg11_4 := blk_lt (HB.out.bk 4 rfl)
          have HN := Aside0.mk (show Bx w [(w.heap.size, a1, b1), (w.heap.size + 1, a2, b2), (w.heap.size + 1 + 1, a3, b3), (w.heap.size + 1 + 1 + 1, a4, b4), (g12, 0, 0), (vv5.heap.size, 0, 0)] _ from HB.out.box rfl 0 0)
          clear HB
          have HB := HN
          clear HN
          generalize World.alloc vv5 _ = vv6 at HB ⊢
          generalize vv5.heap.size = g11 at HB hltg11_3 hltg11_4 ⊢
          refine hK.out _ _ ⟨HB.out.c0 0 rfl, HB.out.c1 0 rfl, HB.out.c0 1 rfl, HB.out.c1 1 rfl, HB.out.c0 2 rfl, HB.out.c1 2 rfl, HB.out.c0 3 rfl, HB.out.c1 3 rfl⟩ (fun hHeld => ?_)
          clear hK K
          refine norm_ (a' := ?_) ?_ ?_
          rotate_left
          · show Act.put _ (some 11) _ = _
            simp only [Act.put, List.setIfInBounds_toArray, List.set_cons_zero, List.set_cons_succ, i64_w, i32_w]
            rfl
          exact norm_ (by simp only [putAll, Act.put, List.setIfInBounds_toArray, List.set_cons_zero, List.set_cons_succ]) (hCont (g11, g12) _ ⟨Bx.swap (L := [(w.heap.size, a1, b1), (w.heap.size + 1, a2, b2), (w.heap.size + 1 + 1, a3, b3), (w.heap.size + 1 + 1 + 1, a4, b4)]) (g12, 0, 0) (g11, 0, 0) HB.out, by omega, by omega, by omega⟩)
        · skip
          refine value_ (w1 := ?_) (v := ?_) (by rfl) rfl ?_ ?_
          rotate_left 2
          · go_simp
            constructor
            · rfl
            · rfl
          have hltg11_3 := blk_lt (HB.out.bk 3 rfl)
          have hltg11_4 := blk_lt (HB.out.bk 4 rfl)
          have HN := Aside0.mk (show Bx w [(w.heap.size, a1, b1), (w.heap.size + 1, a2, b2), (w.heap.size + 1 + 1, a3, b3), (w.heap.size + 1 + 1 + 1, a4, b4), (g12, 0, 0), (vv7.heap.size, 0, 0)] _ from HB.out.box rfl 0 0)
          clear HB
          have HB := HN
          clear HN
          generalize World.alloc vv7 _ = vv6 at HB ⊢
          generalize vv7.heap.size = g11 at HB hltg11_3 hltg11_4 ⊢
          refine hK.out _ _ ⟨HB.out.c0 0 rfl, HB.out.c1 0 rfl, HB.out.c0 1 rfl, HB.out.c1 1 rfl, HB.out.c0 2 rfl, HB.out.c1 2 rfl, HB.out.c0 3 rfl, HB.out.c1 3 rfl⟩ (fun hHeld => ?_)
          clear hK K
          refine norm_ (a' := ?_) ?_ ?_
          rotate_left
          · show Act.put _ (some 11) _ = _
            simp only [Act.put, List.setIfInBounds_toArray, List.set_cons_zero, List.set_cons_succ, i64_w, i32_w]
            rfl
          refine one_ (i := 5) (N := some 18) (bl 10 255) rfl rfl (by kernel_rfl) (by decide) (fun K hK => ?_)
          refine goes_ Try.func26 (by kernel_rfl) rfl #[.agg #[.int .i32 a2, .int .i32 b2], .agg #[.int .i32 a4, .int .i32 b4]] (by rfl) rfl rfl (by (try simp only [List.map_toArray, List.map_cons, List.map_nil]); first | done | rfl) ?_
          with_reducible refine (join_c _ _ _ _ _ _ hj2.out _).mono ?_
          rintro e vv5 ⟨rfl, hb⟩
          refine ⟨_, rfl, ?_⟩
          have HN := Aside0.mk (HB.out.step hb)
          clear HB
          have HB := HN
          clear HN
          clear hb
          refine hK.out _ _ ⟨HB.out.c0 0 rfl, HB.out.c1 0 rfl, HB.out.c0 1 rfl, HB.out.c1 1 rfl, HB.out.c0 2 rfl, HB.out.c1 2 rfl, HB.out.c0 3 rfl, HB.out.c1 3 rfl⟩ (fun hHeld => ?_)
          clear hK K
          refine norm_ (a' := ?_) ?_ ?_
          rotate_left
          · show Act.put _ (some 18) _ = _
            simp only [Act.put, List.setIfInBounds_toArray, List.set_cons_zero, List.set_cons_succ, i64_w, i32_w]
            rfl
          exact norm_ (by simp only [putAll, Act.put, List.setIfInBounds_toArray, List.set_cons_zero, List.set_cons_succ]) (hCont (g11, g12) _ ⟨Bx.swap (L := [(w.heap.size, a1, b1), (w.heap.size + 1, a2, b2), (w.heap.size + 1 + 1, a3, b3), (w.heap.size + 1 + 1 + 1, a4, b4)]) (g12, 0, 0) (g11, 0, 0) HB.out, by omega, by omega, by omega⟩)
    · skip
      refine value_ (w1 := ?_) (v := ?_) (by rfl) rfl ?_ ?_
      rotate_left 2
      · go_simp
        constructor
        · rfl
        · rfl
      have hltg11_3 := blk_lt (HB.out.bk 3 rfl)
      have HN := Aside0.mk (show Bx w [(w.heap.size, a1, b1), (w.heap.size + 1, a2, b2), (w.heap.size + 1 + 1, a3, b3), (w.heap.size + 1 + 1 + 1, a4, b4), (wv3.heap.size, 0, 0)] _ from HB.out.box rfl 0 0)
      clear HB
      have HB := HN
      clear HN
      generalize World.alloc wv3 _ = vv6 at HB ⊢
      generalize wv3.heap.size = g11 at HB hltg11_3 ⊢
      refine hK.out _ _ ⟨HB.out.c0 0 rfl, HB.out.c1 0 rfl, HB.out.c0 1 rfl, HB.out.c1 1 rfl, HB.out.c0 2 rfl, HB.out.c1 2 rfl, HB.out.c0 3 rfl, HB.out.c1 3 rfl⟩ (fun hHeld => ?_)
      clear hK K
      refine norm_ (a' := ?_) ?_ ?_
      rotate_left
      · show Act.put _ (some 11) _ = _
        simp only [Act.put, List.setIfInBounds_toArray, List.set_cons_zero, List.set_cons_succ, i64_w, i32_w]
        rfl
      refine two_ (i := 2) (j := 7) (Ni := some 15) (Nj := some 12) (bl 10 95) (bl 10 219) rfl rfl rfl rfl (by kernel_rfl) (by decide) (by decide) (fun K hK => ?_) (fun K hK => ?_)
      · skip
        refine goes_ Try.func26 (by kernel_rfl) rfl #[.agg #[.int .i32 a1, .int .i32 b1], .agg #[.int .i32 a3, .int .i32 b3]] (by rfl) rfl rfl (by (try simp only [List.map_toArray, List.map_cons, List.map_nil]); first | done | rfl) ?_
        with_reducible refine (join_c _ _ _ _ _ _ hj1.out _).mono ?_
        rintro e vv2 ⟨rfl, hb⟩
        refine ⟨_, rfl, ?_⟩
        have HN := Aside0.mk (HB.out.step hb)
        clear HB
        have HB := HN
        clear HN
        clear hb
        refine hK.out _ _ ⟨HB.out.c0 0 rfl, HB.out.c1 0 rfl, HB.out.c0 1 rfl, HB.out.c1 1 rfl, HB.out.c0 2 rfl, HB.out.c1 2 rfl, HB.out.c0 3 rfl, HB.out.c1 3 rfl⟩ (fun hHeld => ?_)
        clear hK K
        refine norm_ (a' := ?_) ?_ ?_
        rotate_left
        · show Act.put _ (some 15) _ = _
          simp only [Act.put, List.setIfInBounds_toArray, List.set_cons_zero, List.set_cons_succ, i64_w, i32_w]
          rfl
        refine two_ (i := 5) (j := 7) (Ni := some 18) (Nj := some 12) (bl 10 127) (bl 10 223) rfl rfl rfl rfl (by kernel_rfl) (by decide) (by decide) (fun K hK => ?_) (fun K hK => ?_)
        · skip
          refine goes_ Try.func26 (by kernel_rfl) rfl #[.agg #[.int .i32 a2, .int .i32 b2], .agg #[.int .i32 a4, .int .i32 b4]] (by rfl) rfl rfl (by (try simp only [List.map_toArray, List.map_cons, List.map_nil]); first | done | rfl) ?_
          with_reducible refine (join_c _ _ _ _ _ _ hj2.out _).mono ?_
          rintro e vv5 ⟨rfl, hb⟩
          refine ⟨_, rfl, ?_⟩
          have HN := Aside0.mk (HB.out.step hb)
          clear HB
          have HB := HN
          clear HN
          clear hb
          refine hK.out _ _ ⟨HB.out.c0 0 rfl, HB.out.c1 0 rfl, HB.out.c0 1 rfl, HB.out.c1 1 rfl, HB.out.c0 2 rfl, HB.out.c1 2 rfl, HB.out.c0 3 rfl, HB.out.c1 3 rfl⟩ (fun hHeld => ?_)
          clear hK K
          refine norm_ (a' := ?_) ?_ ?_
          rotate_left
          · show Act.put _ (some 18) _ = _
            simp only [Act.put, List.setIfInBounds_toArray, List.set_cons_zero, List.set_cons_succ, i64_w, i32_w]
            rfl
          refine one_ (i := 7) (N := some 12) (bl 10 255) rfl rfl (by kernel_rfl) (by decide) (fun K hK => ?_)
          refine value_ (w1 := ?_) (v := ?_) (by rfl) rfl ?_ ?_
          rotate_left 2
          · go_simp
            constructor
            · rfl
            · rfl
          have hltg12_3 := blk_lt (HB.out.bk 3 rfl)
          have hltg12_4 := blk_lt (HB.out.bk 4 rfl)
          have HN := Aside0.mk (show Bx w [(w.heap.size, a1, b1), (w.heap.size + 1, a2, b2), (w.heap.size + 1 + 1, a3, b3), (w.heap.size + 1 + 1 + 1, a4, b4), (g11, 0, 0), (vv5.heap.size, 0, 0)] _ from HB.out.box rfl 0 0)
          clear HB
          have HB := HN
          clear HN
          generalize World.alloc vv5 _ = vv7 at HB ⊢
          generalize vv5.heap.size = g12 at HB hltg12_3 hltg12_4 ⊢
          refine hK.out _ _ ⟨HB.out.c0 0 rfl, HB.out.c1 0 rfl, HB.out.c0 1 rfl, HB.out.c1 1 rfl, HB.out.c0 2 rfl, HB.out.c1 2 rfl, HB.out.c0 3 rfl, HB.out.c1 3 rfl⟩ (fun hHeld => ?_)
          clear hK K
          refine norm_ (a' := ?_) ?_ ?_
          rotate_left
          · show Act.put _ (some 12) _ = _
            simp only [Act.put, List.setIfInBounds_toArray, List.set_cons_zero, List.set_cons_succ, i64_w, i32_w]
            rfl
          exact norm_ (by simp only [putAll, Act.put, List.setIfInBounds_toArray, List.set_cons_zero, List.set_cons_succ]) (hCont (g11, g12) _ ⟨HB.out, by omega, by omega, by omega⟩)
        · skip
          refine value_ (w1 := ?_) (v := ?_) (by rfl) rfl ?_ ?_
          rotate_left 2
          · go_simp
            constructor
            · rfl
            · rfl
          have hltg12_3 := blk_lt (HB.out.bk 3 rfl)
          have hltg12_4 := blk_lt (HB.out.bk 4 rfl)
          have HN := Aside0.mk (show Bx w [(w.heap.size, a1, b1), (w.heap.size + 1, a2, b2), (w.heap.size + 1 + 1, a3, b3), (w.heap.size + 1 + 1 + 1, a4, b4), (g11, 0, 0), (vv2.heap.size, 0, 0)] _ from HB.out.box rfl 0 0)
          clear HB
          have HB := HN
          clear HN
          generalize World.alloc vv2 _ = vv7 at HB ⊢
          generalize vv2.heap.size = g12 at HB hltg12_3 hltg12_4 ⊢
          refine hK.out _ _ ⟨HB.out.c0 0 rfl, HB.out.c1 0 rfl, HB.out.c0 1 rfl, HB.out.c1 1 rfl, HB.out.c0 2 rfl, HB.out.c1 2 rfl, HB.out.c0 3 rfl, HB.out.c1 3 rfl⟩ (fun hHeld => ?_)
          clear hK K
          refine norm_ (a' := ?_) ?_ ?_
          rotate_left
          · show Act.put _ (some 12) _ = _
            simp only [Act.put, List.setIfInBounds_toArray, List.set_cons_zero, List.set_cons_succ, i64_w, i32_w]
            rfl
          refine one_ (i := 5) (N := some 18) (bl 10 255) rfl rfl (by kernel_rfl) (by decide) (fun K hK => ?_)
          refine goes_ Try.func26 (by kernel_rfl) rfl #[.agg #[.int .i32 a2, .int .i32 b2], .agg #[.int .i32 a4, .int .i32 b4]] (by rfl) rfl rfl (by (try simp only [List.map_toArray, List.map_cons, List.map_nil]); first | done | rfl) ?_
          with_reducible refine (join_c _ _ _ _ _ _ hj2.out _).mono ?_
          rintro e vv5 ⟨rfl, hb⟩
          refine ⟨_, rfl, ?_⟩
          have HN := Aside0.mk (HB.out.step hb)
          clear HB
          have HB := HN
          clear HN
          clear hb
          refine hK.out _ _ ⟨HB.out.c0 0 rfl, HB.out.c1 0 rfl, HB.out.c0 1 rfl, HB.out.c1 1 rfl, HB.out.c0 2 rfl, HB.out.c1 2 rfl, HB.out.c0 3 rfl, HB.out.c1 3 rfl⟩ (fun hHeld => ?_)
          clear hK K
          refine norm_ (a' := ?_) ?_ ?_
          rotate_left
          · show Act.put _ (some 18) _ = _
            simp only [Act.put, List.setIfInBounds_toArray, List.set_cons_zero, List.set_cons_succ, i64_w, i32_w]
            rfl
          exact norm_ (by simp only [putAll, Act.put, List.setIfInBounds_toArray, List.set_cons_zero, List.set_cons_succ]) (hCont (g11, g12) _ ⟨HB.out, by omega, by omega, by omega⟩)
      · skip
        refine value_ (w1 := ?_) (v := ?_) (by rfl) rfl ?_ ?_
        rotate_left 2
        · go_simp
          constructor
          · rfl
          · rfl
        have hltg12_3 := blk_lt (HB.out.bk 3 rfl)
        have hltg12_4 := blk_lt (HB.out.bk 4 rfl)
        have HN := Aside0.mk (show Bx w [(w.heap.size, a1, b1), (w.heap.size + 1, a2, b2), (w.heap.size + 1 + 1, a3, b3), (w.heap.size + 1 + 1 + 1, a4, b4), (g11, 0, 0), (vv6.heap.size, 0, 0)] _ from HB.out.box rfl 0 0)
        clear HB
        have HB := HN
        clear HN
        generalize World.alloc vv6 _ = vv7 at HB ⊢
        generalize vv6.heap.size = g12 at HB hltg12_3 hltg12_4 ⊢
        refine hK.out _ _ ⟨HB.out.c0 0 rfl, HB.out.c1 0 rfl, HB.out.c0 1 rfl, HB.out.c1 1 rfl, HB.out.c0 2 rfl, HB.out.c1 2 rfl, HB.out.c0 3 rfl, HB.out.c1 3 rfl⟩ (fun hHeld => ?_)
        clear hK K
        refine norm_ (a' := ?_) ?_ ?_
        rotate_left
        · show Act.put _ (some 12) _ = _
          simp only [Act.put, List.setIfInBounds_toArray, List.set_cons_zero, List.set_cons_succ, i64_w, i32_w]
          rfl
        refine one_ (i := 2) (N := some 15) (bl 10 223) rfl rfl (by kernel_rfl) (by decide) (fun K hK => ?_)
        refine goes_ Try.func26 (by kernel_rfl) rfl #[.agg #[.int .i32 a1, .int .i32 b1], .agg #[.int .i32 a3, .int .i32 b3]] (by rfl) rfl rfl (by (try simp only [List.map_toArray, List.map_cons, List.map_nil]); first | done | rfl) ?_
        with_reducible refine (join_c _ _ _ _ _ _ hj1.out _).mono ?_
        rintro e vv2 ⟨rfl, hb⟩
        refine ⟨_, rfl, ?_⟩
        have HN := Aside0.mk (HB.out.step hb)
        clear HB
        have HB := HN
        clear HN
        clear hb
        refine hK.out _ _ ⟨HB.out.c0 0 rfl, HB.out.c1 0 rfl, HB.out.c0 1 rfl, HB.out.c1 1 rfl, HB.out.c0 2 rfl, HB.out.c1 2 rfl, HB.out.c0 3 rfl, HB.out.c1 3 rfl⟩ (fun hHeld => ?_)
        clear hK K
        refine norm_ (a' := ?_) ?_ ?_
        rotate_left
        · show Act.put _ (some 15) _ = _
          simp only [Act.put, List.setIfInBounds_toArray, List.set_cons_zero, List.set_cons_succ, i64_w, i32_w]
          rfl
        refine one_ (i := 5) (N := some 18) (bl 10 255) rfl rfl (by kernel_rfl) (by decide) (fun K hK => ?_)
        refine goes_ Try.func26 (by kernel_rfl) rfl #[.agg #[.int .i32 a2, .int .i32 b2], .agg #[.int .i32 a4, .int .i32 b4]] (by rfl) rfl rfl (by (try simp only [List.map_toArray, List.map_cons, List.map_nil]); first | done | rfl) ?_
        with_reducible refine (join_c _ _ _ _ _ _ hj2.out _).mono ?_
        rintro e vv5 ⟨rfl, hb⟩
        refine ⟨_, rfl, ?_⟩
        have HN := Aside0.mk (HB.out.step hb)
        clear HB
        have HB := HN
        clear HN
        clear hb
        refine hK.out _ _ ⟨HB.out.c0 0 rfl, HB.out.c1 0 rfl, HB.out.c0 1 rfl, HB.out.c1 1 rfl, HB.out.c0 2 rfl, HB.out.c1 2 rfl, HB.out.c0 3 rfl, HB.out.c1 3 rfl⟩ (fun hHeld => ?_)
        clear hK K
        refine norm_ (a' := ?_) ?_ ?_
        rotate_left
        · show Act.put _ (some 18) _ = _
          simp only [Act.put, List.setIfInBounds_toArray, List.set_cons_zero, List.set_cons_succ, i64_w, i32_w]
          rfl
        exact norm_ (by simp only [putAll, Act.put, List.setIfInBounds_toArray, List.set_cons_zero, List.set_cons_succ]) (hCont (g11, g12) _ ⟨HB.out, by omega, by omega, by omega⟩)
    · skip
      refine value_ (w1 := ?_) (v := ?_) (by rfl) rfl ?_ ?_
      rotate_left 2
      · go_simp
        constructor
        · rfl
        · rfl
      have hltg12_3 := blk_lt (HB.out.bk 3 rfl)
      have HN := Aside0.mk (show Bx w [(w.heap.size, a1, b1), (w.heap.size + 1, a2, b2), (w.heap.size + 1 + 1, a3, b3), (w.heap.size + 1 + 1 + 1, a4, b4), (wv3.heap.size, 0, 0)] _ from HB.out.box rfl 0 0)
      clear HB
      have HB := HN
      clear HN
      generalize World.alloc wv3 _ = vv7 at HB ⊢
      generalize wv3.heap.size = g12 at HB hltg12_3 ⊢
      refine hK.out _ _ ⟨HB.out.c0 0 rfl, HB.out.c1 0 rfl, HB.out.c0 1 rfl, HB.out.c1 1 rfl, HB.out.c0 2 rfl, HB.out.c1 2 rfl, HB.out.c0 3 rfl, HB.out.c1 3 rfl⟩ (fun hHeld => ?_)
      clear hK K
      refine norm_ (a' := ?_) ?_ ?_
      rotate_left
      · show Act.put _ (some 12) _ = _
        simp only [Act.put, List.setIfInBounds_toArray, List.set_cons_zero, List.set_cons_succ, i64_w, i32_w]
        rfl
      refine two_ (i := 2) (j := 6) (Ni := some 15) (Nj := some 11) (bl 10 159) (bl 10 219) rfl rfl rfl rfl (by kernel_rfl) (by decide) (by decide) (fun K hK => ?_) (fun K hK => ?_)
      · skip
        refine goes_ Try.func26 (by kernel_rfl) rfl #[.agg #[.int .i32 a1, .int .i32 b1], .agg #[.int .i32 a3, .int .i32 b3]] (by rfl) rfl rfl (by (try simp only [List.map_toArray, List.map_cons, List.map_nil]); first | done | rfl) ?_
        with_reducible refine (join_c _ _ _ _ _ _ hj1.out _).mono ?_
        rintro e vv2 ⟨rfl, hb⟩
        refine ⟨_, rfl, ?_⟩
        have HN := Aside0.mk (HB.out.step hb)
        clear HB
        have HB := HN
        clear HN
        clear hb
        refine hK.out _ _ ⟨HB.out.c0 0 rfl, HB.out.c1 0 rfl, HB.out.c0 1 rfl, HB.out.c1 1 rfl, HB.out.c0 2 rfl, HB.out.c1 2 rfl, HB.out.c0 3 rfl, HB.out.c1 3 rfl⟩ (fun hHeld => ?_)
        clear hK K
        refine norm_ (a' := ?_) ?_ ?_
        rotate_left
        · show Act.put _ (some 15) _ = _
          simp only [Act.put, List.setIfInBounds_toArray, List.set_cons_zero, List.set_cons_succ, i64_w, i32_w]
          rfl
        refine two_ (i := 5) (j := 6) (Ni := some 18) (Nj := some 11) (bl 10 191) (bl 10 223) rfl rfl rfl rfl (by kernel_rfl) (by decide) (by decide) (fun K hK => ?_) (fun K hK => ?_)
        · skip
          refine goes_ Try.func26 (by kernel_rfl) rfl #[.agg #[.int .i32 a2, .int .i32 b2], .agg #[.int .i32 a4, .int .i32 b4]] (by rfl) rfl rfl (by (try simp only [List.map_toArray, List.map_cons, List.map_nil]); first | done | rfl) ?_
          with_reducible refine (join_c _ _ _ _ _ _ hj2.out _).mono ?_
          rintro e vv5 ⟨rfl, hb⟩
          refine ⟨_, rfl, ?_⟩
          have HN := Aside0.mk (HB.out.step hb)
          clear HB
          have HB := HN
          clear HN
          clear hb
          refine hK.out _ _ ⟨HB.out.c0 0 rfl, HB.out.c1 0 rfl, HB.out.c0 1 rfl, HB.out.c1 1 rfl, HB.out.c0 2 rfl, HB.out.c1 2 rfl, HB.out.c0 3 rfl, HB.out.c1 3 rfl⟩ (fun hHeld => ?_)
          clear hK K
          refine norm_ (a' := ?_) ?_ ?_
          rotate_left
          · show Act.put _ (some 18) _ = _
            simp only [Act.put, List.setIfInBounds_toArray, List.set_cons_zero, List.set_cons_succ, i64_w, i32_w]
            rfl
          refine one_ (i := 6) (N := some 11) (bl 10 255) rfl rfl (by kernel_rfl) (by decide) (fun K hK => ?_)
          refine value_ (w1 := ?_) (v := ?_) (by rfl) rfl ?_ ?_
          rotate_left 2
          · go_simp
            constructor
            · rfl
            · rfl
          have hltg11_3 := blk_lt (HB.out.bk 3 rfl)
          have hltg11_4 := blk_lt (HB.out.bk 4 rfl)
          have HN := Aside0.mk (show Bx w [(w.heap.size, a1, b1), (w.heap.size + 1, a2, b2), (w.heap.size + 1 + 1, a3, b3), (w.heap.size + 1 + 1 + 1, a4, b4), (g12, 0, 0), (vv5.heap.size, 0, 0)] _ from HB.out.box rfl 0 0)
          clear HB
          have HB := HN
          clear HN
          generalize World.alloc vv5 _ = vv6 at HB ⊢
          generalize vv5.heap.size = g11 at HB hltg11_3 hltg11_4 ⊢
          refine hK.out _ _ ⟨HB.out.c0 0 rfl, HB.out.c1 0 rfl, HB.out.c0 1 rfl, HB.out.c1 1 rfl, HB.out.c0 2 rfl, HB.out.c1 2 rfl, HB.out.c0 3 rfl, HB.out.c1 3 rfl⟩ (fun hHeld => ?_)
          clear hK K
          refine norm_ (a' := ?_) ?_ ?_
          rotate_left
          · show Act.put _ (some 11) _ = _
            simp only [Act.put, List.setIfInBounds_toArray, List.set_cons_zero, List.set_cons_succ, i64_w, i32_w]
            rfl
          exact norm_ (by simp only [putAll, Act.put, List.setIfInBounds_toArray, List.set_cons_zero, List.set_cons_succ]) (hCont (g11, g12) _ ⟨Bx.swap (L := [(w.heap.size, a1, b1), (w.heap.size + 1, a2, b2), (w.heap.size + 1 + 1, a3, b3), (w.heap.size + 1 + 1 + 1, a4, b4)]) (g12, 0, 0) (g11, 0, 0) HB.out, by omega, by omega, by omega⟩)
        · skip
          refine value_ (w1 := ?_) (v := ?_) (by rfl) rfl ?_ ?_
          rotate_left 2
          · go_simp
            constructor
            · rfl
            · rfl
          have hltg11_3 := blk_lt (HB.out.bk 3 rfl)
          have hltg11_4 := blk_lt (HB.out.bk 4 rfl)
          have HN := Aside0.mk (show Bx w [(w.heap.size, a1, b1), (w.heap.size + 1, a2, b2), (w.heap.size + 1 + 1, a3, b3), (w.heap.size + 1 + 1 + 1, a4, b4), (g12, 0, 0), (vv2.heap.size, 0, 0)] _ from HB.out.box rfl 0 0)
          clear HB
          have HB := HN
          clear HN
          generalize World.alloc vv2 _ = vv6 at HB ⊢
          generalize vv2.heap.size = g11 at HB hltg11_3 hltg11_4 ⊢
          refine hK.out _ _ ⟨HB.out.c0 0 rfl, HB.out.c1 0 rfl, HB.out.c0 1 rfl, HB.out.c1 1 rfl, HB.out.c0 2 rfl, HB.out.c1 2 rfl, HB.out.c0 3 rfl, HB.out.c1 3 rfl⟩ (fun hHeld => ?_)
          clear hK K
          refine norm_ (a' := ?_) ?_ ?_
          rotate_left
          · show Act.put _ (some 11) _ = _
            simp only [Act.put, List.setIfInBounds_toArray, List.set_cons_zero, List.set_cons_succ, i64_w, i32_w]
            rfl
          refine one_ (i := 5) (N := some 18) (bl 10 255) rfl rfl (by kernel_rfl) (by decide) (fun K hK => ?_)
          refine goes_ Try.func26 (by kernel_rfl) rfl #[.agg #[.int .i32 a2, .int .i32 b2], .agg #[.int .i32 a4, .int .i32 b4]] (by rfl) rfl rfl (by (try simp only [List.map_toArray, List.map_cons, List.map_nil]); first | done | rfl) ?_
          with_reducible refine (join_c _ _ _ _ _ _ hj2.out _).mono ?_
          rintro e vv5 ⟨rfl, hb⟩
          refine ⟨_, rfl, ?_⟩
          have HN := Aside0.mk (HB.out.step hb)
          clear HB
          have HB := HN
          clear HN
          clear hb
          refine hK.out _ _ ⟨HB.out.c0 0 rfl, HB.out.c1 0 rfl, HB.out.c0 1 rfl, HB.out.c1 1 rfl, HB.out.c0 2 rfl, HB.out.c1 2 rfl, HB.out.c0 3 rfl, HB.out.c1 3 rfl⟩ (fun hHeld => ?_)
          clear hK K
          refine norm_ (a' := ?_) ?_ ?_
          rotate_left
          · show Act.put _ (some 18) _ = _
            simp only [Act.put, List.setIfInBounds_toArray, List.set_cons_zero, List.set_cons_succ, i64_w, i32_w]
            rfl
          exact norm_ (by simp only [putAll, Act.put, List.setIfInBounds_toArray, List.set_cons_zero, List.set_cons_succ]) (hCont (g11, g12) _ ⟨Bx.swap (L := [(w.heap.size, a1, b1), (w.heap.size + 1, a2, b2), (w.heap.size + 1 + 1, a3, b3), (w.heap.size + 1 + 1 + 1, a4, b4)]) (g12, 0, 0) (g11, 0, 0) HB.out, by omega, by omega, by omega⟩)
      · skip
        refine value_ (w1 := ?_) (v := ?_) (by rfl) rfl ?_ ?_
        rotate_left 2
        · go_simp
          constructor
          · rfl
          · rfl
        have hltg11_3 := blk_lt (HB.out.bk 3 rfl)
        have hltg11_4 := blk_lt (HB.out.bk 4 rfl)
        have HN := Aside0.mk (show Bx w [(w.heap.size, a1, b1), (w.heap.size + 1, a2, b2), (w.heap.size + 1 + 1, a3, b3), (w.heap.size + 1 + 1 + 1, a4, b4), (g12, 0, 0), (vv7.heap.size, 0, 0)] _ from HB.out.box rfl 0 0)
        clear HB
        have HB := HN
        clear HN
        generalize World.alloc vv7 _ = vv6 at HB ⊢
        generalize vv7.heap.size = g11 at HB hltg11_3 hltg11_4 ⊢
        refine hK.out _ _ ⟨HB.out.c0 0 rfl, HB.out.c1 0 rfl, HB.out.c0 1 rfl, HB.out.c1 1 rfl, HB.out.c0 2 rfl, HB.out.c1 2 rfl, HB.out.c0 3 rfl, HB.out.c1 3 rfl⟩ (fun hHeld => ?_)
        clear hK K
        refine norm_ (a' := ?_) ?_ ?_
        rotate_left
        · show Act.put _ (some 11) _ = _
          simp only [Act.put, List.setIfInBounds_toArray, List.set_cons_zero, List.set_cons_succ, i64_w, i32_w]
          rfl
        refine one_ (i := 2) (N := some 15) (bl 10 223) rfl rfl (by kernel_rfl) (by decide) (fun K hK => ?_)
        refine goes_ Try.func26 (by kernel_rfl) rfl #[.agg #[.int .i32 a1, .int .i32 b1], .agg #[.int .i32 a3, .int .i32 b3]] (by rfl) rfl rfl (by (try simp only [List.map_toArray, List.map_cons, List.map_nil]); first | done | rfl) ?_
        with_reducible refine (join_c _ _ _ _ _ _ hj1.out _).mono ?_
        rintro e vv2 ⟨rfl, hb⟩
        refine ⟨_, rfl, ?_⟩
        have HN := Aside0.mk (HB.out.step hb)
        clear HB
        have HB := HN
        clear HN
        clear hb
        refine hK.out _ _ ⟨HB.out.c0 0 rfl, HB.out.c1 0 rfl, HB.out.c0 1 rfl, HB.out.c1 1 rfl, HB.out.c0 2 rfl, HB.out.c1 2 rfl, HB.out.c0 3 rfl, HB.out.c1 3 rfl⟩ (fun hHeld => ?_)
        clear hK K
        refine norm_ (a' := ?_) ?_ ?_
        rotate_left
        · show Act.put _ (some 15) _ = _
          simp only [Act.put, List.setIfInBounds_toArray, List.set_cons_zero, List.set_cons_succ, i64_w, i32_w]
          rfl
        refine one_ (i := 5) (N := some 18) (bl 10 255) rfl rfl (by kernel_rfl) (by decide) (fun K hK => ?_)
        refine goes_ Try.func26 (by kernel_rfl) rfl #[.agg #[.int .i32 a2, .int .i32 b2], .agg #[.int .i32 a4, .int .i32 b4]] (by rfl) rfl rfl (by (try simp only [List.map_toArray, List.map_cons, List.map_nil]); first | done | rfl) ?_
        with_reducible refine (join_c _ _ _ _ _ _ hj2.out _).mono ?_
        rintro e vv5 ⟨rfl, hb⟩
        refine ⟨_, rfl, ?_⟩
        have HN := Aside0.mk (HB.out.step hb)
        clear HB
        have HB := HN
        clear HN
        clear hb
        refine hK.out _ _ ⟨HB.out.c0 0 rfl, HB.out.c1 0 rfl, HB.out.c0 1 rfl, HB.out.c1 1 rfl, HB.out.c0 2 rfl, HB.out.c1 2 rfl, HB.out.c0 3 rfl, HB.out.c1 3 rfl⟩ (fun hHeld => ?_)
        clear hK K
        refine norm_ (a' := ?_) ?_ ?_
        rotate_left
        · show Act.put _ (some 18) _ = _
          simp only [Act.put, List.setIfInBounds_toArray, List.set_cons_zero, List.set_cons_succ, i64_w, i32_w]
          rfl
        exact norm_ (by simp only [putAll, Act.put, List.setIfInBounds_toArray, List.set_cons_zero, List.set_cons_succ]) (hCont (g11, g12) _ ⟨Bx.swap (L := [(w.heap.size, a1, b1), (w.heap.size + 1, a2, b2), (w.heap.size + 1 + 1, a3, b3), (w.heap.size + 1 + 1 + 1, a4, b4)]) (g12, 0, 0) (g11, 0, 0) HB.out, by omega, by omega, by omega⟩)
  clear HB
  rintro ⟨g11, g12⟩ w' ⟨HB1, hlg11_3, hlg12_3, hneg11⟩
  have hlg11_3 : w.heap.size + 1 + 1 + 1 < g11 := hlg11_3
  have hlg12_3 : w.heap.size + 1 + 1 + 1 < g12 := hlg12_3
  have hneg11 : g11 ≠ g12 := hneg11
  have HB : Aside0 (Bx w [(w.heap.size, a1, b1), (w.heap.size + 1, a2, b2), (w.heap.size + 1 + 1, a3, b3), (w.heap.size + 1 + 1 + 1, a4, b4), (g11, 0, 0), (g12, 0, 0)] w') := ⟨HB1⟩
  clear HB1
  have hHeld : w'.cell? ⟨w.heap.size, 0, none⟩ = some (.int .i32 a1) ∧ w'.cell? ⟨w.heap.size, 1, none⟩ = some (.int .i32 b1) ∧ w'.cell? ⟨w.heap.size + 1, 0, none⟩ = some (.int .i32 a2) ∧ w'.cell? ⟨w.heap.size + 1, 1, none⟩ = some (.int .i32 b2) ∧ w'.cell? ⟨w.heap.size + 1 + 1, 0, none⟩ = some (.int .i32 a3) ∧ w'.cell? ⟨w.heap.size + 1 + 1, 1, none⟩ = some (.int .i32 b3) ∧ w'.cell? ⟨w.heap.size + 1 + 1 + 1, 0, none⟩ = some (.int .i32 a4) ∧ w'.cell? ⟨w.heap.size + 1 + 1 + 1, 1, none⟩ = some (.int .i32 b4) := ⟨HB.out.c0 0 rfl, HB.out.c1 0 rfl, HB.out.c0 1 rfl, HB.out.c1 1 rfl, HB.out.c0 2 rfl, HB.out.c1 2 rfl, HB.out.c0 3 rfl, HB.out.c1 3 rfl⟩
  refine norm_ (a' := ?_) ?_ ?_
  rotate_left
  · simp only [putAll, Act.put, List.setIfInBounds_toArray, List.set_cons_zero, List.set_cons_succ]
    rfl
  refine one_ (i := 8) (N := none) (bl 10 511) rfl rfl (by kernel_rfl) (by decide) (fun K hK => ?_)
  have C := HB.out.cl
  simp only [Cl, and_true] at C
  obtain ⟨_, _, _, _, _, _, _, _, _, _, _, _, _, _, _, _, _, _, _, _, _, _, _, _⟩ := C
  refine skip_ (w1 := ?_) (by rfl) rfl ?_ ?_
  rotate_left
  · go_simp
    rfl
  have HN := Aside0.mk (show Bx w [(w.heap.size, a1, b1), (w.heap.size + 1, a2, b2), (w.heap.size + 1 + 1, a3, b3), (w.heap.size + 1 + 1 + 1, a4, b4), (g11, p1, q1), (g12, 0, 0)] _ from HB.out.put 4 rfl (by intro m g' a' b' hm hne; rcases m with _ | _ | _ | _ | _ | _ | m <;> simp at hm <;> omega) (by omega) p1 q1)
  clear HB
  have HB := HN
  clear HN
  generalize World.setCell (World.setCell _ _ _) _ _ = wv1 at HB ⊢
  refine hK.out _ _ ⟨HB.out.c0 0 rfl, HB.out.c1 0 rfl, HB.out.c0 1 rfl, HB.out.c1 1 rfl, HB.out.c0 2 rfl, HB.out.c1 2 rfl, HB.out.c0 3 rfl, HB.out.c1 3 rfl⟩ (fun hHeld => ?_)
  clear hK K
  refine one_ (i := 9) (N := none) (bl 10 1023) rfl rfl (by kernel_rfl) (by decide) (fun K hK => ?_)
  have C := HB.out.cl
  simp only [Cl, and_true] at C
  obtain ⟨_, _, _, _, _, _, _, _, _, _, _, _, _, _, _, _, _, _, _, _, _, _, _, _⟩ := C
  refine skip_ (w1 := ?_) (by rfl) rfl ?_ ?_
  rotate_left
  · go_simp
    rfl
  have HN := Aside0.mk (show Bx w [(w.heap.size, a1, b1), (w.heap.size + 1, a2, b2), (w.heap.size + 1 + 1, a3, b3), (w.heap.size + 1 + 1 + 1, a4, b4), (g11, p1, q1), (g12, p2, q2)] _ from HB.out.put 5 rfl (by intro m g' a' b' hm hne; rcases m with _ | _ | _ | _ | _ | _ | m <;> simp at hm <;> omega) (by omega) p2 q2)
  clear HB
  have HB := HN
  clear HN
  generalize World.setCell (World.setCell _ _ _) _ _ = wv2 at HB ⊢
  refine hK.out _ _ ⟨HB.out.c0 0 rfl, HB.out.c1 0 rfl, HB.out.c0 1 rfl, HB.out.c1 1 rfl, HB.out.c0 2 rfl, HB.out.c1 2 rfl, HB.out.c0 3 rfl, HB.out.c1 3 rfl⟩ (fun hHeld => ?_)
  clear hK K
  refine done_ (by kernel_rfl) ?_
  have C := HB.out.cl
  simp only [Cl, and_true] at C
  obtain ⟨_, _, _, _, _, _, _, _, _, _, _, _, _, _, _, _, _, _, _, _, _, _, _, _⟩ := C
  go_wp2_with fail
  have HN := Aside0.mk (HB.out.drew)
  clear HB
  have HB := HN
  clear HN
  refine start_ (n := 26) (S := fun w' => w'.cell? ⟨w.heap.size, 0, none⟩ = some (.int .i32 a1) ∧ w'.cell? ⟨w.heap.size, 1, none⟩ = some (.int .i32 b1) ∧ w'.cell? ⟨w.heap.size + 1, 0, none⟩ = some (.int .i32 a2) ∧ w'.cell? ⟨w.heap.size + 1, 1, none⟩ = some (.int .i32 b2) ∧ w'.cell? ⟨w.heap.size + 1 + 1, 0, none⟩ = some (.int .i32 a3) ∧ w'.cell? ⟨w.heap.size + 1 + 1, 1, none⟩ = some (.int .i32 b3) ∧ w'.cell? ⟨g11, 0, none⟩ = some (.int .i32 p1) ∧ w'.cell? ⟨g11, 1, none⟩ = some (.int .i32 q1) ∧ w'.cell? ⟨g12, 0, none⟩ = some (.int .i32 p2) ∧ w'.cell? ⟨g12, 1, none⟩ = some (.int .i32 q2)) (ds := []) #[false, false, false, false, false, false, false, false, false, false, false, false, false, false, false, false, false, false, false, false, false, false, false, false, false, false] (by kernel_rfl) rfl rfl ⟨HB.out.c0 0 rfl, HB.out.c1 0 rfl, HB.out.c0 1 rfl, HB.out.c1 1 rfl, HB.out.c0 2 rfl, HB.out.c1 2 rfl, HB.out.c0 4 rfl, HB.out.c1 4 rfl, HB.out.c0 5 rfl, HB.out.c1 5 rfl⟩ (fun hHeld => ?_)
  generalize wv2.drew = wv4 at HB hHeld ⊢
  refine one_ (i := 0) (N := some 19) (bl 26 1) rfl rfl (by kernel_rfl) (by decide) (fun K hK => ?_)
  refine goes_ Try.func28 (by kernel_rfl) rfl #[] (by rfl) rfl rfl (by (try simp only [List.map_toArray, List.map_cons, List.map_nil]); first | done | rfl) ?_
  with_reducible refine (awake_c _).mono ?_
  rintro e wv5 ⟨rfl, hb⟩
  refine ⟨_, rfl, ?_⟩
  have HN := Aside0.mk (HB.out.step hb)
  clear HB
  have HB := HN
  clear HN
  clear hb
  refine hK.out _ _ ⟨HB.out.c0 0 rfl, HB.out.c1 0 rfl, HB.out.c0 1 rfl, HB.out.c1 1 rfl, HB.out.c0 2 rfl, HB.out.c1 2 rfl, HB.out.c0 4 rfl, HB.out.c1 4 rfl, HB.out.c0 5 rfl, HB.out.c1 5 rfl⟩ (fun hHeld => ?_)
  clear hK K
  refine norm_ (a' := ?_) ?_ ?_
  rotate_left
  · show Act.put _ (some 19) _ = _
    simp only [Act.put, List.setIfInBounds_toArray, List.set_cons_zero, List.set_cons_succ, i64_w, i32_w]
    rfl
  refine pure_ (i := 1) (N := some 20) (v := ?_) (a' := ?_) (bl 26 3) rfl rfl (by kernel_rfl) (fun _ _ _ h => h) (Or.inl ⟨by rfl, ?_⟩) ?_ ?_
  rotate_left
  · intro w'
    go_simp
    with_reducible rfl
  rotate_left
  · simp only [Act.put, List.setIfInBounds_toArray, List.set_cons_zero, List.set_cons_succ, i64_w, i32_w]
    rfl
  refine pure_ (i := 2) (N := some 21) (v := ?_) (a' := ?_) (bl 26 7) rfl rfl (by kernel_rfl) (fun _ _ _ h => h) (Or.inl ⟨by rfl, ?_⟩) ?_ ?_
  rotate_left
  · intro w'
    go_simp
    with_reducible rfl
  rotate_left
  · simp only [Act.put, List.setIfInBounds_toArray, List.set_cons_zero, List.set_cons_succ, i64_w, i32_w]
    rfl
  refine pure_ (i := 6) (N := some 25) (v := ?_) (a' := ?_) (bl 26 71) rfl rfl (by kernel_rfl) (fun _ _ _ h => h) (Or.inl ⟨by rfl, ?_⟩) ?_ ?_
  rotate_left
  · intro w'
    go_simp
    with_reducible rfl
  rotate_left
  · simp only [Act.put, List.setIfInBounds_toArray, List.set_cons_zero, List.set_cons_succ, i64_w, i32_w]
    rfl
  refine take_ (i := 3) (N := some 22) (v := ?_) (a' := ?_) (bl 26 79) rfl rfl (by kernel_rfl) (fun _ _ _ h => h) (Or.inl ⟨by rfl, ?_⟩) hHeld ?_ ?_
  rotate_left
  · rintro w' ⟨s0, s1, s2, s3, s4, s5, s6, s7, s8, s9⟩
    go_simp
    with_reducible rfl
  rotate_left
  · simp only [Act.put, List.setIfInBounds_toArray, List.set_cons_zero, List.set_cons_succ, i64_w, i32_w]
    rfl
  refine take_ (i := 4) (N := some 23) (v := ?_) (a' := ?_) (bl 26 95) rfl rfl (by kernel_rfl) (fun _ _ _ h => h) (Or.inl ⟨by rfl, ?_⟩) hHeld ?_ ?_
  rotate_left
  · rintro w' ⟨s0, s1, s2, s3, s4, s5, s6, s7, s8, s9⟩
    go_simp
    with_reducible rfl
  rotate_left
  · simp only [Act.put, List.setIfInBounds_toArray, List.set_cons_zero, List.set_cons_succ, i64_w, i32_w]
    rfl
  refine take_ (i := 7) (N := some 26) (v := ?_) (a' := ?_) (bl 26 223) rfl rfl (by kernel_rfl) (fun _ _ _ h => h) (Or.inl ⟨by rfl, ?_⟩) hHeld ?_ ?_
  rotate_left
  · rintro w' ⟨s0, s1, s2, s3, s4, s5, s6, s7, s8, s9⟩
    go_simp
    with_reducible rfl
  rotate_left
  · simp only [Act.put, List.setIfInBounds_toArray, List.set_cons_zero, List.set_cons_succ, i64_w, i32_w]
    rfl
  refine take_ (i := 8) (N := some 27) (v := ?_) (a' := ?_) (bl 26 479) rfl rfl (by kernel_rfl) (fun _ _ _ h => h) (Or.inl ⟨by rfl, ?_⟩) hHeld ?_ ?_
  rotate_left
  · rintro w' ⟨s0, s1, s2, s3, s4, s5, s6, s7, s8, s9⟩
    go_simp
    with_reducible rfl
  rotate_left
  · simp only [Act.put, List.setIfInBounds_toArray, List.set_cons_zero, List.set_cons_succ, i64_w, i32_w]
    rfl
  refine one_ (i := 5) (N := some 24) (bl 26 511) rfl rfl (by kernel_rfl) (by decide) (fun K hK => ?_)
  refine goes_ Try.func38 (by kernel_rfl) rfl #[.int .u8 op, .agg #[.int .i32 a1, .int .i32 b1], .agg #[.int .i32 a2, .int .i32 b2]] (by rfl) rfl rfl (by (try simp only [List.map_toArray, List.map_cons, List.map_nil]); first | done | rfl) ?_
  with_reducible refine (apply_c _ _ _ _ _ _ _ i_a1.out i_b1.out i_a2.out i_b2.out hA.out _).mono ?_
  rintro e wv6 ⟨rfl, hb⟩
  refine ⟨_, rfl, ?_⟩
  have HN := Aside0.mk (HB.out.step hb)
  clear HB
  have HB := HN
  clear HN
  clear hb
  refine hK.out _ _ ⟨HB.out.c0 0 rfl, HB.out.c1 0 rfl, HB.out.c0 1 rfl, HB.out.c1 1 rfl, HB.out.c0 2 rfl, HB.out.c1 2 rfl, HB.out.c0 4 rfl, HB.out.c1 4 rfl, HB.out.c0 5 rfl, HB.out.c1 5 rfl⟩ (fun hHeld => ?_)
  clear hK K
  refine norm_ (a' := ?_) ?_ ?_
  rotate_left
  · show Act.put _ (some 24) _ = _
    simp only [Act.put, List.setIfInBounds_toArray, List.set_cons_zero, List.set_cons_succ, i64_w, i32_w]
    rfl
  refine one_ (i := 9) (N := some 28) (bl 26 1023) rfl rfl (by kernel_rfl) (by decide) (fun K hK => ?_)
  refine goes_ Try.func38 (by kernel_rfl) rfl #[.int .u8 op, .agg #[.int .i32 p1, .int .i32 q1], .agg #[.int .i32 p2, .int .i32 q2]] (by rfl) rfl rfl (by (try simp only [List.map_toArray, List.map_cons, List.map_nil]); first | done | rfl) ?_
  with_reducible refine (apply_c _ _ _ _ _ _ _ i_p1.out i_q1.out i_p2.out i_q2.out hB.out _).mono ?_
  rintro e wv7 ⟨rfl, hb⟩
  refine ⟨_, rfl, ?_⟩
  have HN := Aside0.mk (HB.out.step hb)
  clear HB
  have HB := HN
  clear HN
  clear hb
  refine hK.out _ _ ⟨HB.out.c0 0 rfl, HB.out.c1 0 rfl, HB.out.c0 1 rfl, HB.out.c1 1 rfl, HB.out.c0 2 rfl, HB.out.c1 2 rfl, HB.out.c0 4 rfl, HB.out.c1 4 rfl, HB.out.c0 5 rfl, HB.out.c1 5 rfl⟩ (fun hHeld => ?_)
  clear hK K
  refine norm_ (a' := ?_) ?_ ?_
  rotate_left
  · show Act.put _ (some 28) _ = _
    simp only [Act.put, List.setIfInBounds_toArray, List.set_cons_zero, List.set_cons_succ, i64_w, i32_w]
    rfl
  refine one_ (i := 10) (N := some 29) (bl 26 2047) rfl rfl (by kernel_rfl) (by decide) (fun K hK => ?_)
  refine goes_ Try.func29 (by kernel_rfl) rfl #[.agg #[.int .i32 r0, .int .i32 s0], .agg #[.int .i32 r1, .int .i32 s1]] (by rfl) rfl rfl (by (try simp only [List.map_toArray, List.map_cons, List.map_nil]); first | done | rfl) ?_
  with_reducible refine (within_c _ _ _ _ _ k1.out _).mono ?_
  rintro e wv8 ⟨rfl, hb⟩
  refine ⟨_, rfl, ?_⟩
  have HN := Aside0.mk (HB.out.step hb)
  clear HB
  have HB := HN
  clear HN
  clear hb
  refine hK.out _ _ ⟨HB.out.c0 0 rfl, HB.out.c1 0 rfl, HB.out.c0 1 rfl, HB.out.c1 1 rfl, HB.out.c0 2 rfl, HB.out.c1 2 rfl, HB.out.c0 4 rfl, HB.out.c1 4 rfl, HB.out.c0 5 rfl, HB.out.c1 5 rfl⟩ (fun hHeld => ?_)
  clear hK K
  refine norm_ (a' := ?_) ?_ ?_
  rotate_left
  · show Act.put _ (some 29) _ = _
    simp only [Act.put, List.setIfInBounds_toArray, List.set_cons_zero, List.set_cons_succ, i64_w, i32_w]
    rfl
  refine pure_ (i := 11) (N := some 30) (v := ?_) (a' := ?_) (bl 26 4095) rfl rfl (by kernel_rfl) (fun _ _ _ h => h) (Or.inl ⟨by rfl, ?_⟩) ?_ ?_
  rotate_left
  · intro w'
    go_simp
    with_reducible rfl
  rotate_left
  · simp only [Act.put, List.setIfInBounds_toArray, List.set_cons_zero, List.set_cons_succ, i64_w, i32_w]
    rfl
  refine pure_ (i := 12) (N := some 31) (v := ?_) (a' := ?_) (bl 26 8191) rfl rfl (by kernel_rfl) (fun _ _ _ h => h) (Or.inl ⟨by rfl, ?_⟩) ?_ ?_
  rotate_left
  · intro w'
    go_simp
    with_reducible rfl
  rotate_left
  · simp only [Act.put, List.setIfInBounds_toArray, List.set_cons_zero, List.set_cons_succ, i64_w, i32_w]
    rfl
  refine pure_ (i := 13) (N := some 32) (v := ?_) (a' := ?_) (bl 26 16383) rfl rfl (by kernel_rfl) (fun _ _ _ h => h) (Or.inl ⟨by rfl, ?_⟩) ?_ ?_
  rotate_left
  · intro w'
    go_simp
    with_reducible rfl
  rotate_left
  · simp only [Act.put, List.setIfInBounds_toArray, List.set_cons_zero, List.set_cons_succ, i64_w, i32_w]
    rfl
  refine pure_ (i := 19) (N := some 38) (v := ?_) (a' := ?_) (bl 26 540671) rfl rfl (by kernel_rfl) (fun _ _ _ h => h) (Or.inl ⟨by rfl, ?_⟩) ?_ ?_
  rotate_left
  · intro w'
    go_simp
    with_reducible rfl
  rotate_left
  · simp only [Act.put, List.setIfInBounds_toArray, List.set_cons_zero, List.set_cons_succ, i64_w, i32_w]
    rfl
  refine take_ (i := 14) (N := some 33) (v := ?_) (a' := ?_) (bl 26 557055) rfl rfl (by kernel_rfl) (fun _ _ _ h => h) (Or.inl ⟨by rfl, ?_⟩) hHeld ?_ ?_
  rotate_left
  · rintro w' ⟨s0, s1, s2, s3, s4, s5, s6, s7, s8, s9⟩
    go_simp
    with_reducible rfl
  rotate_left
  · simp only [Act.put, List.setIfInBounds_toArray, List.set_cons_zero, List.set_cons_succ, i64_w, i32_w]
    rfl
  refine take_ (i := 15) (N := some 34) (v := ?_) (a' := ?_) (bl 26 589823) rfl rfl (by kernel_rfl) (fun _ _ _ h => h) (Or.inl ⟨by rfl, ?_⟩) hHeld ?_ ?_
  rotate_left
  · rintro w' ⟨s0, s1, s2, s3, s4, s5, s6, s7, s8, s9⟩
    go_simp
    with_reducible rfl
  rotate_left
  · simp only [Act.put, List.setIfInBounds_toArray, List.set_cons_zero, List.set_cons_succ, i64_w, i32_w]
    rfl
  refine take_ (i := 17) (N := some 36) (v := ?_) (a' := ?_) (bl 26 720895) rfl rfl (by kernel_rfl) (fun _ _ _ h => h) (Or.inl ⟨by rfl, ?_⟩) hHeld ?_ ?_
  rotate_left
  · rintro w' ⟨s0, s1, s2, s3, s4, s5, s6, s7, s8, s9⟩
    go_simp
    with_reducible rfl
  rotate_left
  · simp only [Act.put, List.setIfInBounds_toArray, List.set_cons_zero, List.set_cons_succ, i64_w, i32_w]
    rfl
  refine take_ (i := 20) (N := some 39) (v := ?_) (a' := ?_) (bl 26 1769471) rfl rfl (by kernel_rfl) (fun _ _ _ h => h) (Or.inl ⟨by rfl, ?_⟩) hHeld ?_ ?_
  rotate_left
  · rintro w' ⟨s0, s1, s2, s3, s4, s5, s6, s7, s8, s9⟩
    go_simp
    with_reducible rfl
  rotate_left
  · simp only [Act.put, List.setIfInBounds_toArray, List.set_cons_zero, List.set_cons_succ, i64_w, i32_w]
    rfl
  refine take_ (i := 21) (N := some 40) (v := ?_) (a' := ?_) (bl 26 3866623) rfl rfl (by kernel_rfl) (fun _ _ _ h => h) (Or.inl ⟨by rfl, ?_⟩) hHeld ?_ ?_
  rotate_left
  · rintro w' ⟨s0, s1, s2, s3, s4, s5, s6, s7, s8, s9⟩
    go_simp
    with_reducible rfl
  rotate_left
  · simp only [Act.put, List.setIfInBounds_toArray, List.set_cons_zero, List.set_cons_succ, i64_w, i32_w]
    rfl
  refine one_ (i := 16) (N := some 35) (bl 26 3932159) rfl rfl (by kernel_rfl) (by decide) (fun K hK => ?_)
  refine goes_ Try.func27 (by kernel_rfl) rfl #[.agg #[.int .i32 a1, .int .i32 b1], .agg #[.int .i32 a3, .int .i32 b3]] (by rfl) rfl rfl (by (try simp only [List.map_toArray, List.map_cons, List.map_nil]); first | done | rfl) ?_
  with_reducible refine (meet_c _ _ _ _ _ _ hm.out _).mono ?_
  rintro e wv9 ⟨rfl, hb⟩
  refine ⟨_, rfl, ?_⟩
  have HN := Aside0.mk (HB.out.step hb)
  clear HB
  have HB := HN
  clear HN
  clear hb
  refine hK.out _ _ ⟨HB.out.c0 0 rfl, HB.out.c1 0 rfl, HB.out.c0 1 rfl, HB.out.c1 1 rfl, HB.out.c0 2 rfl, HB.out.c1 2 rfl, HB.out.c0 4 rfl, HB.out.c1 4 rfl, HB.out.c0 5 rfl, HB.out.c1 5 rfl⟩ (fun hHeld => ?_)
  clear hK K
  refine norm_ (a' := ?_) ?_ ?_
  rotate_left
  · show Act.put _ (some 35) _ = _
    simp only [Act.put, List.setIfInBounds_toArray, List.set_cons_zero, List.set_cons_succ, i64_w, i32_w]
    rfl
  refine one_ (i := 18) (N := some 37) (bl 26 4194303) rfl rfl (by kernel_rfl) (by decide) (fun K hK => ?_)
  refine goes_ Try.func38 (by kernel_rfl) rfl #[.int .u8 op, .agg #[.int .i32 m, .int .i32 n], .agg #[.int .i32 a2, .int .i32 b2]] (by rfl) rfl rfl (by (try simp only [List.map_toArray, List.map_cons, List.map_nil]); first | done | rfl) ?_
  with_reducible refine (apply_c _ _ _ _ _ _ _ i_m.out i_n.out i_a2.out i_b2.out hC.out _).mono ?_
  rintro e wv10 ⟨rfl, hb⟩
  refine ⟨_, rfl, ?_⟩
  have HN := Aside0.mk (HB.out.step hb)
  clear HB
  have HB := HN
  clear HN
  clear hb
  refine hK.out _ _ ⟨HB.out.c0 0 rfl, HB.out.c1 0 rfl, HB.out.c0 1 rfl, HB.out.c1 1 rfl, HB.out.c0 2 rfl, HB.out.c1 2 rfl, HB.out.c0 4 rfl, HB.out.c1 4 rfl, HB.out.c0 5 rfl, HB.out.c1 5 rfl⟩ (fun hHeld => ?_)
  clear hK K
  refine norm_ (a' := ?_) ?_ ?_
  rotate_left
  · show Act.put _ (some 37) _ = _
    simp only [Act.put, List.setIfInBounds_toArray, List.set_cons_zero, List.set_cons_succ, i64_w, i32_w]
    rfl
  refine one_ (i := 22) (N := some 41) (bl 26 8388607) rfl rfl (by kernel_rfl) (by decide) (fun K hK => ?_)
  refine goes_ Try.func38 (by kernel_rfl) rfl #[.int .u8 op, .agg #[.int .i32 a1, .int .i32 b1], .agg #[.int .i32 a2, .int .i32 b2]] (by rfl) rfl rfl (by (try simp only [List.map_toArray, List.map_cons, List.map_nil]); first | done | rfl) ?_
  with_reducible refine (apply_c _ _ _ _ _ _ _ i_a1.out i_b1.out i_a2.out i_b2.out hA.out _).mono ?_
  rintro e wv11 ⟨rfl, hb⟩
  refine ⟨_, rfl, ?_⟩
  have HN := Aside0.mk (HB.out.step hb)
  clear HB
  have HB := HN
  clear HN
  clear hb
  refine hK.out _ _ ⟨HB.out.c0 0 rfl, HB.out.c1 0 rfl, HB.out.c0 1 rfl, HB.out.c1 1 rfl, HB.out.c0 2 rfl, HB.out.c1 2 rfl, HB.out.c0 4 rfl, HB.out.c1 4 rfl, HB.out.c0 5 rfl, HB.out.c1 5 rfl⟩ (fun hHeld => ?_)
  clear hK K
  refine norm_ (a' := ?_) ?_ ?_
  rotate_left
  · show Act.put _ (some 41) _ = _
    simp only [Act.put, List.setIfInBounds_toArray, List.set_cons_zero, List.set_cons_succ, i64_w, i32_w]
    rfl
  refine one_ (i := 23) (N := some 42) (bl 26 16777215) rfl rfl (by kernel_rfl) (by decide) (fun K hK => ?_)
  refine goes_ Try.func29 (by kernel_rfl) rfl #[.agg #[.int .i32 r2, .int .i32 s2], .agg #[.int .i32 r0, .int .i32 s0]] (by rfl) rfl rfl (by (try simp only [List.map_toArray, List.map_cons, List.map_nil]); first | done | rfl) ?_
  with_reducible refine (within_c _ _ _ _ _ k2.out _).mono ?_
  rintro e wv12 ⟨rfl, hb⟩
  refine ⟨_, rfl, ?_⟩
  have HN := Aside0.mk (HB.out.step hb)
  clear HB
  have HB := HN
  clear HN
  clear hb
  refine hK.out _ _ ⟨HB.out.c0 0 rfl, HB.out.c1 0 rfl, HB.out.c0 1 rfl, HB.out.c1 1 rfl, HB.out.c0 2 rfl, HB.out.c1 2 rfl, HB.out.c0 4 rfl, HB.out.c1 4 rfl, HB.out.c0 5 rfl, HB.out.c1 5 rfl⟩ (fun hHeld => ?_)
  clear hK K
  refine norm_ (a' := ?_) ?_ ?_
  rotate_left
  · show Act.put _ (some 42) _ = _
    simp only [Act.put, List.setIfInBounds_toArray, List.set_cons_zero, List.set_cons_succ, i64_w, i32_w]
    rfl
  refine pure_ (i := 24) (N := some 43) (v := ?_) (a' := ?_) (bl 26 33554431) rfl rfl (by kernel_rfl) (fun _ _ _ h => h) (Or.inl ⟨by rfl, ?_⟩) ?_ ?_
  rotate_left
  · intro w'
    go_simp
    with_reducible rfl
  rotate_left
  · simp only [Act.put, List.setIfInBounds_toArray, List.set_cons_zero, List.set_cons_succ, i64_w, i32_w]
    rfl
  refine pure_ (i := 25) (N := some 10) (v := ?_) (a' := ?_) (bl 26 67108863) rfl rfl (by kernel_rfl) (fun _ _ _ h => h) (Or.inl ⟨by rfl, ?_⟩) ?_ ?_
  rotate_left
  · intro w'
    go_simp
    with_reducible rfl
  rotate_left
  · simp only [Act.put, List.setIfInBounds_toArray, List.set_cons_zero, List.set_cons_succ, i64_w, i32_w]
    rfl
  refine done_ (by kernel_rfl) ?_
  have C := HB.out.cl
  simp only [Cl, and_true] at C
  obtain ⟨_, _, _, _, _, _, _, _, _, _, _, _, _, _, _, _, _, _, _, _, _, _, _, _⟩ := C
  go_wp2_with fail
  go_ret
  exact ⟨by first | rfl | (simp; done) | (simp [*]; done), HB.out.below⟩

theorem walk (op a1 b1 a2 b2 a3 b3 a4 b4 : Int) (w : World) (w0 : (Lit.int .u8 op).wf = true) (w1a : (Lit.int .i32 a1).wf = true) (w1b : (Lit.int .i32 b1).wf = true) (w2a : (Lit.int .i32 a2).wf = true) (w2b : (Lit.int .i32 b2).wf = true) (w3a : (Lit.int .i32 a3).wf = true) (w3b : (Lit.int .i32 b3).wf = true) (w4a : (Lit.int .i32 a4).wf = true) (w4b : (Lit.int .i32 b4).wf = true) :
    Calls Try.prog 17 #[.int .u8 op, .agg #[.int .i32 a1, .int .i32 b1], .agg #[.int .i32 a2, .int .i32 b2], .agg #[.int .i32 a3, .int .i32 b3], .agg #[.int .i32 a4, .int .i32 b4]] w fun e w' => e = .returned (.bool true) ∧ Below w.heap.size w w' := by
  have ha1 := i32_wf w1a; have hb1 := i32_wf w1b; have ha2 := i32_wf w2a; have hb2 := i32_wf w2b
  have ha3 := i32_wf w3a; have hb3 := i32_wf w3b; have ha4 := i32_wf w4a; have hb4 := i32_wf w4b
  have jj : ∀ {a b c d : Int}, I32 a → I32 b → I32 c → I32 d → J32 (joinv a b c d) := by
    intro a b c d h1 h2 h3 h4; unfold J32 I32 at *; unfold joinv; repeat' split
    all_goals (simp only; omega)
  have jm : J32 (meetv a1 b1 a3 b3) := by
    unfold J32 I32 at *; unfold meetv; split <;> (simp only; omega)
  have j1 := jj ha1 hb1 ha3 hb3
  have j2 := jj ha2 hb2 ha4 hb4
  have sj : ∀ {a b c d : Int}, M.Sub (a, b) (joinv a b c d) := by
    intro a b c d; unfold M.Sub joinv; repeat' split
    all_goals (simp only; omega)
  have sm : M.Sub (meetv a1 b1 a3 b3) (a1, b1) := by
    unfold M.Sub meetv; split <;> (simp only; omega)
  have m1 := iv_mono (op := op) ha1 hb1 ha2 hb2 j1.1 j1.2 j2.1 j2.2 sj sj
  have m2 := iv_mono (op := op) jm.1 jm.2 ha2 hb2 ha1 hb1 ha2 hb2 sm (Sub_refl _)
  exact walk0 op a1 b1 a2 b2 a3 b3 a4 b4 _ _ _ _ _ _ _ _ _ _ _ _ ⟨ha1⟩ ⟨hb1⟩ ⟨ha2⟩ ⟨hb2⟩ ⟨j1.1⟩ ⟨j1.2⟩ ⟨j2.1⟩ ⟨j2.2⟩ ⟨jm.1⟩ ⟨jm.2⟩ ⟨rfl⟩ ⟨rfl⟩ ⟨rfl⟩ ⟨rfl⟩ ⟨rfl⟩ ⟨rfl⟩ ⟨Sub_within m1⟩ ⟨Sub_within m2⟩ w

end Go.Proofs.Ytoalomjmmlnclaa.Monotone
