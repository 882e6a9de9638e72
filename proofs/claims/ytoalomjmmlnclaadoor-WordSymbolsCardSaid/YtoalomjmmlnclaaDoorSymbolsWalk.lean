/- The walk of 'WordSymbols': for every byte the call answers true, where the table lies as the program lays it. -/
import Derived.Test.YtoalomjmmlnclaaDoorSyms
namespace Go.Proofs.YtoalomjmmlnclaaDoor.Syms
open Go.RowKit Go.Proofs.YtoalomjmmlnclaaDoor.PWordSymbols Go.Proofs.YtoalomjmmlnclaaDoorW.PrintWords Go.Proofs.YtoalomjmmlnclaaDoorW.PrintLast Go.Proofs.YtoalomjmmlnclaaDoorW.PrintMore
set_option linter.unusedVariables false
set_option linter.unusedSimpArgs false

set_option maxHeartbeats 4000000 in
set_option maxRecDepth 100000 in
theorem out (op : Int) (h : op < 4 ∨ 23 < op) (w : World) : Calls Tryd.prog 3 #[.int .u8 op] w fun e w' => e = .returned (.bool true) ∧ Below w.heap.size w w' := by
  have HE := Aside0.mk (ent_out h w)
  have HB := Aside0.mk (Below.refl w.heap.size w)
  by_cases h4 : 4 ≤ op
  · have d1 : decide (4 ≤ op) = true := decide_eq_true h4
    have d2 : decide (op ≤ 23) = false := decide_eq_false (by omega)
    clear h h4
    go_enter Tryd.func3, Tryd.ntmps3
    go_wp2_with fail
    (with_reducible refine (operators_c _).mono ?_); rintro e v1 ⟨g, cap, rfl, hg, ho, hb⟩
    have hg0 : w.heap.size ≤ g := Nat.le_trans HB.out.size hg
    clear hg
    have HO := Aside0.mk ho
    replace HB := Aside0.mk (below_step HB.out hb)
    clear ho hb
    go_wp2_with fail
    (with_reducible refine (awake_c _).mono ?_); rintro e v2 ⟨rfl, hb⟩
    replace HB := Aside0.mk (below_step HB.out hb)
    replace HO := Aside0.mk (HO.out.step hb)
    clear hb
    go_wp2_with fail
    (with_reducible refine (symbol_c _ _ _ _ HE _ HB).mono ?_); rintro e v3 ⟨rfl, hb⟩
    replace HB := Aside0.mk (below_step HB.out hb)
    replace HO := Aside0.mk (HO.out.step hb)
    clear hb
    go_wp2_with fail
    (with_reducible refine (level_c _ _ _ _ HE _ HB).mono ?_); rintro e v4 ⟨rfl, hb⟩
    replace HB := Aside0.mk (below_step HB.out hb)
    replace HO := Aside0.mk (HO.out.step hb)
    clear hb
    go_wp2_with fail
    go_loopg [46] 18 (fun kq v46 w' => ∃ i : Nat, i + kq = 18 ∧ v46 = .int .i64 (i : Int) ∧ Aside0 (Below w.heap.size w w') ∧ Aside0 (Ops w' g i))
    case atStart => exact ⟨0, rfl, rfl, HB, HO⟩
    case round =>
      clear HB HO
      obtain ⟨i, hi, rfl, HB, HO⟩ := hrel
      by_cases h6 : i < 18
      · have hd : decide ((i : Int) < 18) = true := decide_eq_true (by omega)
        have hi0 : (0 : Int) ≤ i := by omega
        have hc := HO.out.cell h6
        have hz := HO.out.open
        have hv : IntKind.u8.wrap (6 + (i : Int)) = (i : Int) + 6 := by rw [IntKind.wrap_u8]; omega
        have hv2 : IntKind.u8.wrap (i : Int) = (i : Int) := by rw [IntKind.wrap_u8]; omega
        go_wp2_with fail
        skip
        go_roundg (17 - i)
        case measure => omega
        case rel => exact ⟨i + 1, by omega, by simp, ⟨below_set HB.out hg0⟩, ⟨HO.out.put _⟩⟩
      · have hd : decide ((i : Int) < 18) = false := decide_eq_false (by omega)
        go_wp2_with fail
        (with_reducible refine (operators_c _).mono ?_); rintro e v5 ⟨g2, cap2, rfl, _, ho, hb⟩
        have hc2 := ho.cell (show 0 < 18 by decide)
        have hc3 : v5.cell? ⟨g2, 0, none⟩ = some (.int .u8 6) := by simpa using hc2
        replace HB := Aside0.mk (below_step HB.out hb)
        clear ho hb hc2
        go_wp2_with fail
        go_ret
        exact ⟨by first | rfl | (simp; done) | (simp [*]; done), HB.out⟩
  · have d1 : decide (4 ≤ op) = false := decide_eq_false h4
    clear h h4
    go_enter Tryd.func3, Tryd.ntmps3
    go_wp2_with fail
    (with_reducible refine (operators_c _).mono ?_); rintro e v1 ⟨g, cap, rfl, hg, ho, hb⟩
    have hg0 : w.heap.size ≤ g := Nat.le_trans HB.out.size hg
    clear hg
    have HO := Aside0.mk ho
    replace HB := Aside0.mk (below_step HB.out hb)
    clear ho hb
    go_wp2_with fail
    (with_reducible refine (awake_c _).mono ?_); rintro e v2 ⟨rfl, hb⟩
    replace HB := Aside0.mk (below_step HB.out hb)
    replace HO := Aside0.mk (HO.out.step hb)
    clear hb
    go_wp2_with fail
    (with_reducible refine (symbol_c _ _ _ _ HE _ HB).mono ?_); rintro e v3 ⟨rfl, hb⟩
    replace HB := Aside0.mk (below_step HB.out hb)
    replace HO := Aside0.mk (HO.out.step hb)
    clear hb
    go_wp2_with fail
    (with_reducible refine (level_c _ _ _ _ HE _ HB).mono ?_); rintro e v4 ⟨rfl, hb⟩
    replace HB := Aside0.mk (below_step HB.out hb)
    replace HO := Aside0.mk (HO.out.step hb)
    clear hb
    go_wp2_with fail
    go_loopg [46] 18 (fun kq v46 w' => ∃ i : Nat, i + kq = 18 ∧ v46 = .int .i64 (i : Int) ∧ Aside0 (Below w.heap.size w w') ∧ Aside0 (Ops w' g i))
    case atStart => exact ⟨0, rfl, rfl, HB, HO⟩
    case round =>
      clear HB HO
      obtain ⟨i, hi, rfl, HB, HO⟩ := hrel
      by_cases h6 : i < 18
      · have hd : decide ((i : Int) < 18) = true := decide_eq_true (by omega)
        have hi0 : (0 : Int) ≤ i := by omega
        have hc := HO.out.cell h6
        have hz := HO.out.open
        have hv : IntKind.u8.wrap (6 + (i : Int)) = (i : Int) + 6 := by rw [IntKind.wrap_u8]; omega
        have hv2 : IntKind.u8.wrap (i : Int) = (i : Int) := by rw [IntKind.wrap_u8]; omega
        go_wp2_with fail
        skip
        go_roundg (17 - i)
        case measure => omega
        case rel => exact ⟨i + 1, by omega, by simp, ⟨below_set HB.out hg0⟩, ⟨HO.out.put _⟩⟩
      · have hd : decide ((i : Int) < 18) = false := decide_eq_false (by omega)
        go_wp2_with fail
        (with_reducible refine (operators_c _).mono ?_); rintro e v5 ⟨g2, cap2, rfl, _, ho, hb⟩
        have hc2 := ho.cell (show 0 < 18 by decide)
        have hc3 : v5.cell? ⟨g2, 0, none⟩ = some (.int .u8 6) := by simpa using hc2
        replace HB := Aside0.mk (below_step HB.out hb)
        clear ho hb hc2
        go_wp2_with fail
        go_ret
        exact ⟨by first | rfl | (simp; done) | (simp [*]; done), HB.out⟩

set_option maxHeartbeats 4000000 in
set_option maxRecDepth 100000 in
theorem inn (k : Nat) (hk : k < 20) (w : World) (HL : Aside0 (Laid w)) : Calls Tryd.prog 3 #[.int .u8 ((k : Int) + 4)] w fun e w' => e = .returned (.bool true) ∧ Below w.heap.size w w' := by
  have HE := Aside0.mk (ent_in hk HL.out)
  have HB := Aside0.mk (Below.refl w.heap.size w)
  have d1 : decide (4 ≤ (k : Int) + 4) = true := decide_eq_true (by omega)
  have d2 : decide ((k : Int) + 4 ≤ 23) = true := decide_eq_true (by omega)
  have hv0 : IntKind.u8.wrap (k : Int) = (k : Int) := by rw [IntKind.wrap_u8]; omega
  have hk' : (k : Int) < 20 := by omega
  go_enter Tryd.func3, Tryd.ntmps3
  go_upto_region 3 with (fail)
  replace HB := Aside0.mk (below_drew1 HB.out)
  refine start_ (n := 12) (S := fun w' => True) (ds := []) #[false, false, false, false, false, false, false, false, false, false, false, false] (by kernel_rfl) rfl rfl trivial (fun hHeld => ?_)
  generalize w.drew = wd at HB hHeld ⊢
  refine pure_ (i := 1) (N := some 15) (v := ?_) (a' := ?_) #[false, true, false, false, false, false, false, false, false, false, false, false] rfl rfl (by kernel_rfl) (fun _ _ _ h => h) (Or.inl ⟨by rfl, ?_⟩) ?_ ?_
  rotate_left
  · intro w'
    go_simp
    with_reducible rfl
  rotate_left
  · simp only [Act.put, List.setIfInBounds_toArray, List.set_cons_zero, List.set_cons_succ, i64_w, i32_w]
    rfl
  refine pure_ (i := 2) (N := some 16) (v := ?_) (a' := ?_) #[false, true, true, false, false, false, false, false, false, false, false, false] rfl rfl (by kernel_rfl) (fun _ _ _ h => h) (Or.inl ⟨by rfl, ?_⟩) ?_ ?_
  rotate_left
  · intro w'
    go_simp
    with_reducible rfl
  rotate_left
  · simp only [Act.put, List.setIfInBounds_toArray, List.set_cons_zero, List.set_cons_succ, i64_w, i32_w]
    rfl
  refine pure_ (i := 6) (N := some 20) (v := ?_) (a' := ?_) #[false, true, true, false, false, false, true, false, false, false, false, false] rfl rfl (by kernel_rfl) (fun _ _ _ h => h) (Or.inl ⟨by rfl, ?_⟩) ?_ ?_
  rotate_left
  · intro w'
    go_simp
    with_reducible rfl
  rotate_left
  · simp only [Act.put, List.setIfInBounds_toArray, List.set_cons_zero, List.set_cons_succ, i64_w, i32_w]
    rfl
  refine pure_ (i := 7) (N := some 21) (v := ?_) (a' := ?_) #[false, true, true, false, false, false, true, true, false, false, false, false] rfl rfl (by kernel_rfl) (fun _ _ _ h => h) (Or.inl ⟨by rfl, ?_⟩) ?_ ?_
  rotate_left
  · intro w'
    go_simp
    with_reducible rfl
  rotate_left
  · simp only [Act.put, List.setIfInBounds_toArray, List.set_cons_zero, List.set_cons_succ, i64_w, i32_w]
    rfl
  refine one_ (i := 0) (N := some 14) #[true, true, true, false, false, false, true, true, false, false, false, false] rfl rfl (by kernel_rfl) (by decide) (fun K hK => ?_)
  refine goes_ Tryd.func4 (by kernel_rfl) rfl #[] (by rfl) rfl rfl (by (try simp only [List.map_toArray, List.map_cons, List.map_nil]); first | done | rfl) ?_
  with_reducible refine (symbols_c _).mono ?_
  rintro e v0 ⟨g1, cap1, rfl, hc1', hb⟩
  refine ⟨_, rfl, ?_⟩
  have hc1 := hc1' k hk
  replace HB := Aside0.mk (below_step HB.out hb)
  clear hc1' hb
  refine hK.out _ _ trivial (fun hHeld => ?_)
  clear hK K
  refine norm_ (a' := ?_) ?_ ?_
  rotate_left
  · show Act.put _ (some 14) _ = _
    simp only [Act.put, List.setIfInBounds_toArray, List.set_cons_zero, List.set_cons_succ, i64_w, i32_w]
    rfl
  refine pure_ (i := 3) (N := some 17) (v := ?_) (a' := ?_) #[true, true, true, true, false, false, true, true, false, false, false, false] rfl rfl (by kernel_rfl) (fun _ _ _ h => h) (Or.inl ⟨by rfl, ?_⟩) ?_ ?_
  rotate_left
  · intro w'
    go_simp
    with_reducible rfl
  rotate_left
  · simp only [Act.put, List.setIfInBounds_toArray, List.set_cons_zero, List.set_cons_succ, i64_w, i32_w]
    rfl
  refine join_ (σ := Nat × Nat) 1 #[true, true, true, true, true, true, true, true, true, true, true, false] (fun sg => [(3, .string (sy k)), (18, .string (sy k)), (19, .slice (some ⟨sg.1, 0, none⟩) 20 sg.2), (22, .pointer (some ⟨sg.1, k, none⟩)), (23, .int .i64 (lv k))]) (fun sg w' => Below w.heap.size w w') ?_ ?_
  rotate_left
  · intro hCont
    refine two_ (i := 4) (j := 5) (Ni := some 18) (Nj := some 19) #[true, true, true, true, true, false, true, true, false, false, false, false] #[true, true, true, true, false, true, true, true, false, false, false, false] rfl rfl rfl rfl (by kernel_rfl) (by decide) (by decide) (fun K hK => ?_) (fun K hK => ?_)
    · skip
      refine value_ (w1 := ?_) (v := ?_) (by rfl) rfl ?_ ?_
      rotate_left 2
      · go_simp
        constructor
        · rfl
        · rfl
      refine hK.out _ _ trivial (fun hHeld => ?_)
      clear hK K
      refine norm_ (a' := ?_) ?_ ?_
      rotate_left
      · show Act.put _ (some 18) _ = _
        simp only [Act.put, List.setIfInBounds_toArray, List.set_cons_zero, List.set_cons_succ, i64_w, i32_w]
        rfl
      refine one_ (i := 5) (N := some 19) #[true, true, true, true, true, true, true, true, false, false, false, false] rfl rfl (by kernel_rfl) (by decide) (fun K hK => ?_)
      refine goes_ Tryd.func5 (by kernel_rfl) rfl #[] (by rfl) rfl rfl (by (try simp only [List.map_toArray, List.map_cons, List.map_nil]); first | done | rfl) ?_
      with_reducible refine (levels_c _).mono ?_
      rintro e vL ⟨g2, cap2, rfl, hc2', hb⟩
      refine ⟨_, rfl, ?_⟩
      have hc2 := hc2' k hk
      skip
      have hs1 : vL.cell? ⟨g1, k, none⟩ = some (.string (sy k)) := (hb.cell (World.block_lt_of_cell? _ _ hc1)).trans hc1
      have HB2 := Aside0.mk (below_step HB.out hb)
      clear hc2' hb
      refine hK.out _ _ trivial (fun hHeld => ?_)
      clear hK K
      refine norm_ (a' := ?_) ?_ ?_
      rotate_left
      · show Act.put _ (some 19) _ = _
        simp only [Act.put, List.setIfInBounds_toArray, List.set_cons_zero, List.set_cons_succ, i64_w, i32_w]
        rfl
      refine pure_ (i := 8) (N := some 22) (v := ?_) (a' := ?_) #[true, true, true, true, true, true, true, true, true, false, false, false] rfl rfl (by kernel_rfl) (fun _ _ _ h => h) (Or.inl ⟨by rfl, ?_⟩) ?_ ?_
      rotate_left
      · intro w'
        go_simp
        with_reducible rfl
      rotate_left
      · simp only [Act.put, List.setIfInBounds_toArray, List.set_cons_zero, List.set_cons_succ, i64_w, i32_w]
        rfl
      refine pure_ (i := 10) (N := some 3) (v := ?_) (a' := ?_) #[true, true, true, true, true, true, true, true, true, false, true, false] rfl rfl (by kernel_rfl) (fun _ _ _ h => h) (Or.inl ⟨by rfl, ?_⟩) ?_ ?_
      rotate_left
      · intro w'
        go_simp
        with_reducible rfl
      rotate_left
      · simp only [Act.put, List.setIfInBounds_toArray, List.set_cons_zero, List.set_cons_succ, i64_w, i32_w]
        rfl
      refine one_ (i := 9) (N := some 23) #[true, true, true, true, true, true, true, true, true, true, true, false] rfl rfl (by kernel_rfl) (by decide) (fun K hK => ?_)
      refine value_ (w1 := ?_) (v := ?_) (by rfl) rfl ?_ ?_
      rotate_left 2
      · go_simp
        constructor
        · rfl
        · rfl
      refine hK.out _ _ trivial (fun hHeld => ?_)
      clear hK K
      refine norm_ (a' := ?_) ?_ ?_
      rotate_left
      · show Act.put _ (some 23) _ = _
        simp only [Act.put, List.setIfInBounds_toArray, List.set_cons_zero, List.set_cons_succ, i64_w, i32_w]
        rfl
      exact norm_ (by simp only [putAll, Act.put, List.setIfInBounds_toArray, List.set_cons_zero, List.set_cons_succ]) (hCont (g2, cap2) _ HB2.out)
    · skip
      refine goes_ Tryd.func5 (by kernel_rfl) rfl #[] (by rfl) rfl rfl (by (try simp only [List.map_toArray, List.map_cons, List.map_nil]); first | done | rfl) ?_
      with_reducible refine (levels_c _).mono ?_
      rintro e vL ⟨g2, cap2, rfl, hc2', hb⟩
      refine ⟨_, rfl, ?_⟩
      have hc2 := hc2' k hk
      skip
      have hs1 : vL.cell? ⟨g1, k, none⟩ = some (.string (sy k)) := (hb.cell (World.block_lt_of_cell? _ _ hc1)).trans hc1
      have HB2 := Aside0.mk (below_step HB.out hb)
      clear hc2' hb
      refine hK.out _ _ trivial (fun hHeld => ?_)
      clear hK K
      refine norm_ (a' := ?_) ?_ ?_
      rotate_left
      · show Act.put _ (some 19) _ = _
        simp only [Act.put, List.setIfInBounds_toArray, List.set_cons_zero, List.set_cons_succ, i64_w, i32_w]
        rfl
      refine pure_ (i := 8) (N := some 22) (v := ?_) (a' := ?_) #[true, true, true, true, false, true, true, true, true, false, false, false] rfl rfl (by kernel_rfl) (fun _ _ _ h => h) (Or.inl ⟨by rfl, ?_⟩) ?_ ?_
      rotate_left
      · intro w'
        go_simp
        with_reducible rfl
      rotate_left
      · simp only [Act.put, List.setIfInBounds_toArray, List.set_cons_zero, List.set_cons_succ, i64_w, i32_w]
        rfl
      refine two_ (i := 4) (j := 9) (Ni := some 18) (Nj := some 23) #[true, true, true, true, true, true, true, true, true, false, false, false] #[true, true, true, true, false, true, true, true, true, true, false, false] rfl rfl rfl rfl (by kernel_rfl) (by decide) (by decide) (fun K hK => ?_) (fun K hK => ?_)
      · skip
        refine value_ (w1 := ?_) (v := ?_) (by rfl) rfl ?_ ?_
        rotate_left 2
        · go_simp
          constructor
          · rfl
          · rfl
        refine hK.out _ _ trivial (fun hHeld => ?_)
        clear hK K
        refine norm_ (a' := ?_) ?_ ?_
        rotate_left
        · show Act.put _ (some 18) _ = _
          simp only [Act.put, List.setIfInBounds_toArray, List.set_cons_zero, List.set_cons_succ, i64_w, i32_w]
          rfl
        refine pure_ (i := 10) (N := some 3) (v := ?_) (a' := ?_) #[true, true, true, true, true, true, true, true, true, false, true, false] rfl rfl (by kernel_rfl) (fun _ _ _ h => h) (Or.inl ⟨by rfl, ?_⟩) ?_ ?_
        rotate_left
        · intro w'
          go_simp
          with_reducible rfl
        rotate_left
        · simp only [Act.put, List.setIfInBounds_toArray, List.set_cons_zero, List.set_cons_succ, i64_w, i32_w]
          rfl
        refine one_ (i := 9) (N := some 23) #[true, true, true, true, true, true, true, true, true, true, true, false] rfl rfl (by kernel_rfl) (by decide) (fun K hK => ?_)
        refine value_ (w1 := ?_) (v := ?_) (by rfl) rfl ?_ ?_
        rotate_left 2
        · go_simp
          constructor
          · rfl
          · rfl
        refine hK.out _ _ trivial (fun hHeld => ?_)
        clear hK K
        refine norm_ (a' := ?_) ?_ ?_
        rotate_left
        · show Act.put _ (some 23) _ = _
          simp only [Act.put, List.setIfInBounds_toArray, List.set_cons_zero, List.set_cons_succ, i64_w, i32_w]
          rfl
        exact norm_ (by simp only [putAll, Act.put, List.setIfInBounds_toArray, List.set_cons_zero, List.set_cons_succ]) (hCont (g2, cap2) _ HB2.out)
      · skip
        refine value_ (w1 := ?_) (v := ?_) (by rfl) rfl ?_ ?_
        rotate_left 2
        · go_simp
          constructor
          · rfl
          · rfl
        refine hK.out _ _ trivial (fun hHeld => ?_)
        clear hK K
        refine norm_ (a' := ?_) ?_ ?_
        rotate_left
        · show Act.put _ (some 23) _ = _
          simp only [Act.put, List.setIfInBounds_toArray, List.set_cons_zero, List.set_cons_succ, i64_w, i32_w]
          rfl
        refine one_ (i := 4) (N := some 18) #[true, true, true, true, true, true, true, true, true, true, false, false] rfl rfl (by kernel_rfl) (by decide) (fun K hK => ?_)
        refine value_ (w1 := ?_) (v := ?_) (by rfl) rfl ?_ ?_
        rotate_left 2
        · go_simp
          constructor
          · rfl
          · rfl
        refine hK.out _ _ trivial (fun hHeld => ?_)
        clear hK K
        refine norm_ (a' := ?_) ?_ ?_
        rotate_left
        · show Act.put _ (some 18) _ = _
          simp only [Act.put, List.setIfInBounds_toArray, List.set_cons_zero, List.set_cons_succ, i64_w, i32_w]
          rfl
        refine pure_ (i := 10) (N := some 3) (v := ?_) (a' := ?_) #[true, true, true, true, true, true, true, true, true, true, true, false] rfl rfl (by kernel_rfl) (fun _ _ _ h => h) (Or.inl ⟨by rfl, ?_⟩) ?_ ?_
        rotate_left
        · intro w'
          go_simp
          with_reducible rfl
        rotate_left
        · simp only [Act.put, List.setIfInBounds_toArray, List.set_cons_zero, List.set_cons_succ, i64_w, i32_w]
          rfl
        exact norm_ (by simp only [putAll, Act.put, List.setIfInBounds_toArray, List.set_cons_zero, List.set_cons_succ]) (hCont (g2, cap2) _ HB2.out)
  clear HB
  rintro ⟨g2, cap2⟩ vF hb
  have HB := Aside0.mk hb
  clear hb hc1
  have hHeld : True := trivial
  refine norm_ (a' := ?_) ?_ ?_
  rotate_left
  · simp only [putAll, Act.put, List.setIfInBounds_toArray, List.set_cons_zero, List.set_cons_succ]
    rfl
  refine pure_ (i := 11) (N := some 4) (v := ?_) (a' := ?_) #[true, true, true, true, true, true, true, true, true, true, true, true] rfl rfl (by kernel_rfl) (fun _ _ _ h => h) (Or.inl ⟨by rfl, ?_⟩) ?_ ?_
  rotate_left
  · intro w'
    go_simp
    with_reducible rfl
  rotate_left
  · simp only [Act.put, List.setIfInBounds_toArray, List.set_cons_zero, List.set_cons_succ, i64_w, i32_w]
    rfl
  refine done_ (by kernel_rfl) ?_
  generalize sy k = s at HE ⊢
  generalize lv k = l at HE ⊢
  go_wp2_with fail
  (with_reducible refine (operators_c _).mono ?_); rintro e v1 ⟨g, cap, rfl, hg, ho, hb⟩
  have hg0 : w.heap.size ≤ g := Nat.le_trans HB.out.size hg
  clear hg
  have HO := Aside0.mk ho
  replace HB := Aside0.mk (below_step HB.out hb)
  clear ho hb
  go_wp2_with fail
  (with_reducible refine (awake_c _).mono ?_); rintro e v2 ⟨rfl, hb⟩
  replace HB := Aside0.mk (below_step HB.out hb)
  replace HO := Aside0.mk (HO.out.step hb)
  clear hb
  go_wp2_with fail
  (with_reducible refine (symbol_c _ _ _ _ HE _ HB).mono ?_); rintro e v3 ⟨rfl, hb⟩
  replace HB := Aside0.mk (below_step HB.out hb)
  replace HO := Aside0.mk (HO.out.step hb)
  clear hb
  go_wp2_with fail
  (with_reducible refine (level_c _ _ _ _ HE _ HB).mono ?_); rintro e v4 ⟨rfl, hb⟩
  replace HB := Aside0.mk (below_step HB.out hb)
  replace HO := Aside0.mk (HO.out.step hb)
  clear hb
  go_wp2_with fail
  go_loopg [46] 18 (fun kq v46 w' => ∃ i : Nat, i + kq = 18 ∧ v46 = .int .i64 (i : Int) ∧ Aside0 (Below w.heap.size w w') ∧ Aside0 (Ops w' g i))
  case atStart => exact ⟨0, rfl, rfl, HB, HO⟩
  case round =>
    clear HB HO
    obtain ⟨i, hi, rfl, HB, HO⟩ := hrel
    by_cases h6 : i < 18
    · have hd : decide ((i : Int) < 18) = true := decide_eq_true (by omega)
      have hi0 : (0 : Int) ≤ i := by omega
      have hc := HO.out.cell h6
      have hz := HO.out.open
      have hv : IntKind.u8.wrap (6 + (i : Int)) = (i : Int) + 6 := by rw [IntKind.wrap_u8]; omega
      have hv2 : IntKind.u8.wrap (i : Int) = (i : Int) := by rw [IntKind.wrap_u8]; omega
      go_wp2_with fail
      skip
      go_roundg (17 - i)
      case measure => omega
      case rel => exact ⟨i + 1, by omega, by simp, ⟨below_set HB.out hg0⟩, ⟨HO.out.put _⟩⟩
    · have hd : decide ((i : Int) < 18) = false := decide_eq_false (by omega)
      go_wp2_with fail
      (with_reducible refine (operators_c _).mono ?_); rintro e v5 ⟨g2, cap2, rfl, _, ho, hb⟩
      have hc2 := ho.cell (show 0 < 18 by decide)
      have hc3 : v5.cell? ⟨g2, 0, none⟩ = some (.int .u8 6) := by simpa using hc2
      replace HB := Aside0.mk (below_step HB.out hb)
      clear ho hb hc2
      go_wp2_with fail
      go_ret
      exact ⟨by first | rfl | (simp; done) | (simp [*]; done), HB.out⟩

theorem walk (op : Int) (w : World) (wf : (Lit.int .u8 op).wf = true) (HL : Laid w) : Calls Tryd.prog 3 #[.int .u8 op] w fun e w' => e = .returned (.bool true) ∧ Below w.heap.size w w' := by
  by_cases h : op < 4 ∨ 23 < op
  · exact out op h w
  · obtain ⟨k, hk⟩ : ∃ k : Nat, op = (k : Int) + 4 := ⟨(op - 4).toNat, by omega⟩
    subst hk
    exact inn k (by omega) w ⟨HL⟩

end Go.Proofs.YtoalomjmmlnclaaDoor.Syms
