/- The walk of 'IntervalTight': for every operator and every two intervals the call answers true. -/
import Derived.Test.YtoalomjmmlnclaaIvlF
import Derived.Test.YtoalomjmmlnclaaIvlClamp
import Derived.Test.YtoalomjmmlnclaaIvlTight
import Derived.Test.YtoalomjmmlnclaaPIntervalApplyx1
namespace Go.Proofs.Ytoalomjmmlnclaa.Tight
open Go.RowKit Go.Proofs.Ytoalomjmmlnclaa.PIntervalApply Go.Proofs.YtoalomjmmlnclaaW.PrintWords Go.Proofs.YtoalomjmmlnclaaW.PrintLast Go.Proofs.YtoalomjmmlnclaaW.PrintMore
open Go.Proofs.Ytoalomjmmlnclaa.M Go.Proofs.Ytoalomjmmlnclaa.Ivl
open List renaming setIfInBounds_toArray → zA, set_cons_zero → zB, set_cons_succ → zC
attribute [local go_sem] max2_int min2_int max_two min_two max_three min_three max_four min_four
attribute [local go_sem high] eqA38
set_option linter.unusedVariables false
set_option linter.unusedSimpArgs false


/-- A block of words. -/
def Num (W : World) (g : Nat) (cs : Array Value) : Prop := W.heap[g]? = some (.cells cs 21 (0, 0))
theorem Num.step {W W' : World} {g : Nat} {cs : Array Value} (h : Num W g cs) (hb : Below W.heap.size W W') : Num W' g cs := blk_below h hb
theorem Num.drew {W : World} {g : Nat} {cs : Array Value} (h : Num W g cs) : Num W.drew g cs := blk_drew h
theorem Num.drewN {W : World} {g : Nat} {cs : Array Value} (h : Num W g cs) (m : Nat) : Num (W.drewN m) g cs := blk_drewN h m
theorem Num.alloc {W : World} {g : Nat} {cs : Array Value} (h : Num W g cs) (o : Obj) : Num (W.alloc o) g cs := blk_alloc h o
theorem Num.new (W : World) (cs : Array Value) : Num (W.alloc (.cells cs 21)) W.heap.size cs := blk_new W _
def xs (a b : Int) (i : Nat) : Int := if i = 0 then a else b
def ys (c d : Int) (j : Nat) : Int := if j = 0 then c else if j = 1 then d else if j = 2 then clampv c d (-1) else clampv c d 1
theorem Num.at2 {W : World} {g : Nat} {a b : Int} (h : Num W g #[.int .i32 a, .int .i32 b]) {k : Nat} (hk : k < 2) : W.cell? ⟨g, k, none⟩ = some (.int .i32 (xs a b k)) := by
  rcases k with _ | _ | k
  · exact (blk_cell h 0).trans rfl
  · exact (blk_cell h 1).trans rfl
  · omega
theorem Num.at4 {W : World} {g : Nat} {c d : Int} (h : Num W g #[.int .i32 c, .int .i32 d, .int .i32 (clampv c d (-1)), .int .i32 (clampv c d 1)]) {k : Nat} (hk : k < 4) : W.cell? ⟨g, k, none⟩ = some (.int .i32 (ys c d k)) := by
  rcases k with _ | _ | _ | _ | k
  · exact (blk_cell h 0).trans rfl
  · exact (blk_cell h 1).trans rfl
  · exact (blk_cell h 2).trans rfl
  · exact (blk_cell h 3).trans rfl
  · omega
theorem keep {i j i0 j0 : Nat} {lo lo' : Bool} (h : i0 < i ∨ (i0 = i ∧ j0 < j) → lo = true) (h1 : lo = true → lo' = true) (h2 : i0 = i ∧ j0 = j → lo' = true) : i0 < i ∨ (i0 = i ∧ j0 < j + 1) → lo' = true := by
  intro hh; by_cases k : i0 < i ∨ (i0 = i ∧ j0 < j)
  · exact h1 (h k)
  · exact h2 (by omega)
/-- What has been found behind so many rounds. -/
def Inv (i0 j0 i1 j1 i j : Nat) (lo hi : Bool) : Prop := (i0 < i ∨ (i0 = i ∧ j0 < j) → lo = true) ∧ (i1 < i ∨ (i1 = i ∧ j1 < j) → hi = true)
def Hit (i0 j0 i j : Nat) (e : Int) (q : Bool) : Prop := i0 = i ∧ j0 = j → e = 0 ∧ q = true

set_option maxHeartbeats 4000000 in
set_option maxRecDepth 100000 in
theorem early0 (op a1 b1 a2 b2 z1 z2 : Int) (i_a1 : Aside0 (I32 a1)) (i_b1 : Aside0 (I32 b1)) (i_a2 : Aside0 (I32 a2)) (i_b2 : Aside0 (I32 b2)) (hz : Aside0 (iv op a1 b1 a2 b2 = (z1, z2))) (d1 : decide (op < 6) = true) (w : World) : Calls Try.prog 15 #[.int .u8 op, .agg #[.int .i32 a1, .int .i32 b1], .agg #[.int .i32 a2, .int .i32 b2]] w fun e w' => e = .returned (.bool true) ∧ Below w.heap.size w w' := by
  have hu38 := Try.underlying38
  go_enter Try.func15, Try.ntmps15
  go_upto_region 1 with (fail)
  have HB := Aside0.mk (Bx.start2 w a1 b1 a2 b2)
  generalize World.alloc (World.alloc w _) _ = w0 at HB ⊢
  have C := HB.out.cl
  simp only [Cl, and_true] at C
  obtain ⟨_, _, _, _, _, _, _, _⟩ := C
  go_wp2_with fail
  (with_reducible refine (apply_c _ _ _ _ _ _ _ i_a1.out i_b1.out i_a2.out i_b2.out hz.out _).mono ?_); rintro e wv1 ⟨rfl, hb⟩
  replace HB := Aside0.mk (HB.out.step hb)
  clear hb
  have C := HB.out.cl
  simp only [Cl, and_true] at C
  obtain ⟨_, _, _, _, _, _, _, _⟩ := C
  go_upto_region 2 with (fail)
  have hl7 := blk_lt (HB.out.bk 1 rfl)
  replace HB := Aside0.mk (show Bx w [(w.heap.size, a1, b1), (w.heap.size + 1, a2, b2), (wv1.heap.size, z1, z2)] _ from HB.out.box rfl z1 z2)
  generalize World.alloc wv1 _ = wz at HB ⊢
  generalize wv1.heap.size = g7 at HB hl7 ⊢
  have C := HB.out.cl
  simp only [Cl, and_true] at C
  obtain ⟨_, _, _, _, _, _, _, _, _, _, _, _⟩ := C
  replace HB := Aside0.mk (HB.out.drew)
  refine start_ (n := 33) (S := fun w' => True) (ds := []) #[false, false, false, false, false, false, false, false, false, false, false, false, false, false, false, false, false, false, false, false, false, false, false, false, false, false, false, false, false, false, false, false, false] (by kernel_rfl) rfl rfl trivial (fun hHeld => ?_)
  generalize wz.drew = wv2 at HB hHeld ⊢
  refine one_ (i := 0) (N := some 20) (bl 33 1) rfl rfl (by kernel_rfl) (by decide) (fun K hK => ?_)
  refine goes_ Try.func28 (by kernel_rfl) rfl #[] (by rfl) rfl rfl (by (try simp only [List.map_toArray, List.map_cons, List.map_nil]); first | done | rfl) ?_
  with_reducible refine (awake_c _).mono ?_
  rintro e wv3 ⟨rfl, hb⟩; refine ⟨_, rfl, ?_⟩
  replace HB := Aside0.mk (HB.out.step hb); clear hb
  refine hK.out _ _ trivial (fun hHeld => ?_)
  clear hK K
  refine norm_ (a' := ?_) ?_ ?_; rotate_left
  · show Act.put _ (some 20) _ = _; simp only [Act.put, zA, zB, zC, i64_w, i32_w]; rfl
  refine pure_ (i := 1) (N := some 21) (v := ?_) (a' := ?_) (bl 33 3) rfl rfl (by kernel_rfl) (fun _ _ _ h => h) (Or.inl ⟨by rfl, ?_⟩) ?_ ?_
  rotate_left
  · intro w'; go_simp; with_reducible rfl
  rotate_left
  · simp only [Act.put, zA, zB, zC, i64_w, i32_w]; rfl
  refine pure_ (i := 2) (N := some 22) (v := ?_) (a' := ?_) (bl 33 7) rfl rfl (by kernel_rfl) (fun _ _ _ h => h) (Or.inl ⟨by rfl, ?_⟩) ?_ ?_
  rotate_left
  · intro w'; go_simp; with_reducible rfl
  rotate_left
  · simp only [Act.put, zA, zB, zC, i64_w, i32_w]; rfl
  refine pure_ (i := 3) (N := some 23) (v := ?_) (a' := ?_) (bl 33 15) rfl rfl (by kernel_rfl) (fun _ _ _ h => h) (Or.inl ⟨by rfl, ?_⟩) ?_ ?_
  rotate_left
  · intro w'; go_simp; with_reducible rfl
  rotate_left
  · simp only [Act.put, zA, zB, zC, i64_w, i32_w]; rfl
  refine pure_ (i := 4) (N := some 24) (v := ?_) (a' := ?_) (bl 33 31) rfl rfl (by kernel_rfl) (fun _ _ _ h => h) (Or.inl ⟨by rfl, ?_⟩) ?_ ?_
  rotate_left
  · intro w'; go_simp; with_reducible rfl
  rotate_left
  · simp only [Act.put, zA, zB, zC, i64_w, i32_w]; rfl
  refine pure_ (i := 5) (N := some 25) (v := ?_) (a' := ?_) (bl 33 63) rfl rfl (by kernel_rfl) (fun _ _ _ h => h) (Or.inl ⟨by rfl, ?_⟩) ?_ ?_
  rotate_left
  · intro w'; go_simp; with_reducible rfl
  rotate_left
  · simp only [Act.put, zA, zB, zC, i64_w, i32_w]; rfl
  refine pure_ (i := 6) (N := some 26) (v := ?_) (a' := ?_) (bl 33 127) rfl rfl (by kernel_rfl) (fun _ _ _ h => h) (Or.inl ⟨by rfl, ?_⟩) ?_ ?_
  rotate_left
  · intro w'; go_simp; with_reducible rfl
  rotate_left
  · simp only [Act.put, zA, zB, zC, i64_w, i32_w]; rfl
  refine pure_ (i := 7) (N := some 27) (v := undef) (a' := ?_) (bl 33 255) rfl rfl (by kernel_rfl) (fun _ _ _ h => h) (Or.inr ⟨by rfl, rfl⟩) ?_ ?_
  rotate_left
  · simp only [Act.put, zA, zB, zC, i64_w, i32_w]; rfl
  refine pure_ (i := 8) (N := some 28) (v := undef) (a' := ?_) (bl 33 511) rfl rfl (by kernel_rfl) (fun _ _ _ h => h) (Or.inr ⟨by rfl, rfl⟩) ?_ ?_
  rotate_left
  · simp only [Act.put, zA, zB, zC, i64_w, i32_w]; rfl
  refine pure_ (i := 9) (N := some 29) (v := ?_) (a' := ?_) (bl 33 1023) rfl rfl (by kernel_rfl) (fun _ _ _ h => h) (Or.inl ⟨by rfl, ?_⟩) ?_ ?_
  rotate_left
  · intro w'; go_simp; with_reducible rfl
  rotate_left
  · simp only [Act.put, zA, zB, zC, i64_w, i32_w]; rfl
  refine pure_ (i := 10) (N := some 30) (v := ?_) (a' := ?_) (bl 33 2047) rfl rfl (by kernel_rfl) (fun _ _ _ h => h) (Or.inl ⟨by rfl, ?_⟩) ?_ ?_
  rotate_left
  · intro w'; go_simp; with_reducible rfl
  rotate_left
  · simp only [Act.put, zA, zB, zC, i64_w, i32_w]; rfl
  refine pure_ (i := 11) (N := some 31) (v := undef) (a' := ?_) (bl 33 4095) rfl rfl (by kernel_rfl) (fun _ _ _ h => h) (Or.inr ⟨by rfl, rfl⟩) ?_ ?_
  rotate_left
  · simp only [Act.put, zA, zB, zC, i64_w, i32_w]; rfl
  refine pure_ (i := 12) (N := some 32) (v := undef) (a' := ?_) (bl 33 8191) rfl rfl (by kernel_rfl) (fun _ _ _ h => h) (Or.inr ⟨by rfl, rfl⟩) ?_ ?_
  rotate_left
  · simp only [Act.put, zA, zB, zC, i64_w, i32_w]; rfl
  refine pure_ (i := 13) (N := some 33) (v := undef) (a' := ?_) (bl 33 16383) rfl rfl (by kernel_rfl) (fun _ _ _ h => h) (Or.inr ⟨by rfl, rfl⟩) ?_ ?_
  rotate_left
  · simp only [Act.put, zA, zB, zC, i64_w, i32_w]; rfl
  refine pure_ (i := 14) (N := some 34) (v := undef) (a' := ?_) (bl 33 32767) rfl rfl (by kernel_rfl) (fun _ _ _ h => h) (Or.inr ⟨by rfl, rfl⟩) ?_ ?_
  rotate_left
  · simp only [Act.put, zA, zB, zC, i64_w, i32_w]; rfl
  refine pure_ (i := 15) (N := some 35) (v := undef) (a' := ?_) (bl 33 65535) rfl rfl (by kernel_rfl) (fun _ _ _ h => h) (Or.inr ⟨by rfl, rfl⟩) ?_ ?_
  rotate_left
  · simp only [Act.put, zA, zB, zC, i64_w, i32_w]; rfl
  refine pure_ (i := 16) (N := some 36) (v := ?_) (a' := ?_) (bl 33 131071) rfl rfl (by kernel_rfl) (fun _ _ _ h => h) (Or.inl ⟨by rfl, ?_⟩) ?_ ?_
  rotate_left
  · intro w'; go_simp; with_reducible rfl
  rotate_left
  · simp only [Act.put, zA, zB, zC, i64_w, i32_w]; rfl
  refine pure_ (i := 17) (N := some 37) (v := ?_) (a' := ?_) (bl 33 262143) rfl rfl (by kernel_rfl) (fun _ _ _ h => h) (Or.inl ⟨by rfl, ?_⟩) ?_ ?_
  rotate_left
  · intro w'; go_simp; with_reducible rfl
  rotate_left
  · simp only [Act.put, zA, zB, zC, i64_w, i32_w]; rfl
  refine pure_ (i := 18) (N := some 38) (v := undef) (a' := ?_) (bl 33 524287) rfl rfl (by kernel_rfl) (fun _ _ _ h => h) (Or.inr ⟨by rfl, rfl⟩) ?_ ?_
  rotate_left
  · simp only [Act.put, zA, zB, zC, i64_w, i32_w]; rfl
  refine pure_ (i := 19) (N := some 39) (v := undef) (a' := ?_) (bl 33 1048575) rfl rfl (by kernel_rfl) (fun _ _ _ h => h) (Or.inr ⟨by rfl, rfl⟩) ?_ ?_
  rotate_left
  · simp only [Act.put, zA, zB, zC, i64_w, i32_w]; rfl
  refine pure_ (i := 20) (N := some 40) (v := undef) (a' := ?_) (bl 33 2097151) rfl rfl (by kernel_rfl) (fun _ _ _ h => h) (Or.inr ⟨by rfl, rfl⟩) ?_ ?_
  rotate_left
  · simp only [Act.put, zA, zB, zC, i64_w, i32_w]; rfl
  refine pure_ (i := 21) (N := some 41) (v := undef) (a' := ?_) (bl 33 4194303) rfl rfl (by kernel_rfl) (fun _ _ _ h => h) (Or.inr ⟨by rfl, rfl⟩) ?_ ?_
  rotate_left
  · simp only [Act.put, zA, zB, zC, i64_w, i32_w]; rfl
  refine pure_ (i := 22) (N := some 42) (v := undef) (a' := ?_) (bl 33 8388607) rfl rfl (by kernel_rfl) (fun _ _ _ h => h) (Or.inr ⟨by rfl, rfl⟩) ?_ ?_
  rotate_left
  · simp only [Act.put, zA, zB, zC, i64_w, i32_w]; rfl
  refine pure_ (i := 23) (N := some 43) (v := ?_) (a' := ?_) (bl 33 16777215) rfl rfl (by kernel_rfl) (fun _ _ _ h => h) (Or.inl ⟨by rfl, ?_⟩) ?_ ?_
  rotate_left
  · intro w'; go_simp; with_reducible rfl
  rotate_left
  · simp only [Act.put, zA, zB, zC, i64_w, i32_w]; rfl
  refine pure_ (i := 24) (N := some 44) (v := ?_) (a' := ?_) (bl 33 33554431) rfl rfl (by kernel_rfl) (fun _ _ _ h => h) (Or.inl ⟨by rfl, ?_⟩) ?_ ?_
  rotate_left
  · intro w'; go_simp; with_reducible rfl
  rotate_left
  · simp only [Act.put, zA, zB, zC, i64_w, i32_w]; rfl
  refine pure_ (i := 25) (N := some 45) (v := undef) (a' := ?_) (bl 33 67108863) rfl rfl (by kernel_rfl) (fun _ _ _ h => h) (Or.inr ⟨by rfl, rfl⟩) ?_ ?_
  rotate_left
  · simp only [Act.put, zA, zB, zC, i64_w, i32_w]; rfl
  refine pure_ (i := 26) (N := some 46) (v := undef) (a' := ?_) (bl 33 134217727) rfl rfl (by kernel_rfl) (fun _ _ _ h => h) (Or.inr ⟨by rfl, rfl⟩) ?_ ?_
  rotate_left
  · simp only [Act.put, zA, zB, zC, i64_w, i32_w]; rfl
  refine pure_ (i := 27) (N := some 47) (v := undef) (a' := ?_) (bl 33 268435455) rfl rfl (by kernel_rfl) (fun _ _ _ h => h) (Or.inr ⟨by rfl, rfl⟩) ?_ ?_
  rotate_left
  · simp only [Act.put, zA, zB, zC, i64_w, i32_w]; rfl
  refine pure_ (i := 28) (N := some 48) (v := ?_) (a' := ?_) (bl 33 536870911) rfl rfl (by kernel_rfl) (fun _ _ _ h => h) (Or.inl ⟨by rfl, ?_⟩) ?_ ?_
  rotate_left
  · intro w'; go_simp; with_reducible rfl
  rotate_left
  · simp only [Act.put, zA, zB, zC, i64_w, i32_w]; rfl
  refine pure_ (i := 29) (N := some 49) (v := ?_) (a' := ?_) (bl 33 1073741823) rfl rfl (by kernel_rfl) (fun _ _ _ h => h) (Or.inl ⟨by rfl, ?_⟩) ?_ ?_
  rotate_left
  · intro w'; go_simp; with_reducible rfl
  rotate_left
  · simp only [Act.put, zA, zB, zC, i64_w, i32_w]; rfl
  refine pure_ (i := 30) (N := some 50) (v := undef) (a' := ?_) (bl 33 2147483647) rfl rfl (by kernel_rfl) (fun _ _ _ h => h) (Or.inr ⟨by rfl, rfl⟩) ?_ ?_
  rotate_left
  · simp only [Act.put, zA, zB, zC, i64_w, i32_w]; rfl
  refine pure_ (i := 31) (N := some 51) (v := undef) (a' := ?_) (bl 33 4294967295) rfl rfl (by kernel_rfl) (fun _ _ _ h => h) (Or.inr ⟨by rfl, rfl⟩) ?_ ?_
  rotate_left
  · simp only [Act.put, zA, zB, zC, i64_w, i32_w]; rfl
  refine pure_ (i := 32) (N := some 52) (v := ?_) (a' := ?_) (bl 33 8589934591) rfl rfl (by kernel_rfl) (fun _ _ _ h => h) (Or.inl ⟨by rfl, ?_⟩) ?_ ?_
  rotate_left
  · intro w'; go_simp; with_reducible rfl
  rotate_left
  · simp only [Act.put, zA, zB, zC, i64_w, i32_w]; rfl
  refine done_ (by kernel_rfl) ?_
  have C := HB.out.cl
  simp only [Cl, and_true] at C
  obtain ⟨_, _, _, _, _, _, _, _, _, _, _, _⟩ := C
  go_wp2_with fail
  (with_reducible refine (awake_c _).mono ?_); rintro e wv4 ⟨rfl, hb⟩
  replace HB := Aside0.mk (HB.out.step hb)
  clear hb
  have C := HB.out.cl
  simp only [Cl, and_true] at C
  obtain ⟨_, _, _, _, _, _, _, _, _, _, _, _⟩ := C
  go_wp2_with fail
  go_ret
  exact ⟨by first | rfl | (simp; done) | (simp [*]; done), HB.out.below⟩

set_option maxHeartbeats 4000000 in
set_option maxRecDepth 100000 in
theorem early1 (op a1 b1 a2 b2 z1 z2 : Int) (i_a1 : Aside0 (I32 a1)) (i_b1 : Aside0 (I32 b1)) (i_a2 : Aside0 (I32 a2)) (i_b2 : Aside0 (I32 b2)) (hz : Aside0 (iv op a1 b1 a2 b2 = (z1, z2))) (d1 : decide (op < 6) = false) (d2 : decide (9 < op) = true) (w : World) : Calls Try.prog 15 #[.int .u8 op, .agg #[.int .i32 a1, .int .i32 b1], .agg #[.int .i32 a2, .int .i32 b2]] w fun e w' => e = .returned (.bool true) ∧ Below w.heap.size w w' := by
  have hu38 := Try.underlying38
  go_enter Try.func15, Try.ntmps15
  go_upto_region 1 with (fail)
  have HB := Aside0.mk (Bx.start2 w a1 b1 a2 b2)
  generalize World.alloc (World.alloc w _) _ = w0 at HB ⊢
  have C := HB.out.cl
  simp only [Cl, and_true] at C
  obtain ⟨_, _, _, _, _, _, _, _⟩ := C
  go_wp2_with fail
  (with_reducible refine (apply_c _ _ _ _ _ _ _ i_a1.out i_b1.out i_a2.out i_b2.out hz.out _).mono ?_); rintro e wv1 ⟨rfl, hb⟩
  replace HB := Aside0.mk (HB.out.step hb)
  clear hb
  have C := HB.out.cl
  simp only [Cl, and_true] at C
  obtain ⟨_, _, _, _, _, _, _, _⟩ := C
  go_upto_region 2 with (fail)
  have hl7 := blk_lt (HB.out.bk 1 rfl)
  replace HB := Aside0.mk (show Bx w [(w.heap.size, a1, b1), (w.heap.size + 1, a2, b2), (wv1.heap.size, z1, z2)] _ from HB.out.box rfl z1 z2)
  generalize World.alloc wv1 _ = wz at HB ⊢
  generalize wv1.heap.size = g7 at HB hl7 ⊢
  have C := HB.out.cl
  simp only [Cl, and_true] at C
  obtain ⟨_, _, _, _, _, _, _, _, _, _, _, _⟩ := C
  replace HB := Aside0.mk (HB.out.drew)
  refine start_ (n := 33) (S := fun w' => True) (ds := []) #[false, false, false, false, false, false, false, false, false, false, false, false, false, false, false, false, false, false, false, false, false, false, false, false, false, false, false, false, false, false, false, false, false] (by kernel_rfl) rfl rfl trivial (fun hHeld => ?_)
  generalize wz.drew = wv2 at HB hHeld ⊢
  refine one_ (i := 0) (N := some 20) (bl 33 1) rfl rfl (by kernel_rfl) (by decide) (fun K hK => ?_)
  refine goes_ Try.func28 (by kernel_rfl) rfl #[] (by rfl) rfl rfl (by (try simp only [List.map_toArray, List.map_cons, List.map_nil]); first | done | rfl) ?_
  with_reducible refine (awake_c _).mono ?_
  rintro e wv3 ⟨rfl, hb⟩; refine ⟨_, rfl, ?_⟩
  replace HB := Aside0.mk (HB.out.step hb); clear hb
  refine hK.out _ _ trivial (fun hHeld => ?_)
  clear hK K
  refine norm_ (a' := ?_) ?_ ?_; rotate_left
  · show Act.put _ (some 20) _ = _; simp only [Act.put, zA, zB, zC, i64_w, i32_w]; rfl
  refine pure_ (i := 1) (N := some 21) (v := ?_) (a' := ?_) (bl 33 3) rfl rfl (by kernel_rfl) (fun _ _ _ h => h) (Or.inl ⟨by rfl, ?_⟩) ?_ ?_
  rotate_left
  · intro w'; go_simp; with_reducible rfl
  rotate_left
  · simp only [Act.put, zA, zB, zC, i64_w, i32_w]; rfl
  refine pure_ (i := 2) (N := some 22) (v := ?_) (a' := ?_) (bl 33 7) rfl rfl (by kernel_rfl) (fun _ _ _ h => h) (Or.inl ⟨by rfl, ?_⟩) ?_ ?_
  rotate_left
  · intro w'; go_simp; with_reducible rfl
  rotate_left
  · simp only [Act.put, zA, zB, zC, i64_w, i32_w]; rfl
  refine pure_ (i := 3) (N := some 23) (v := ?_) (a' := ?_) (bl 33 15) rfl rfl (by kernel_rfl) (fun _ _ _ h => h) (Or.inl ⟨by rfl, ?_⟩) ?_ ?_
  rotate_left
  · intro w'; go_simp; with_reducible rfl
  rotate_left
  · simp only [Act.put, zA, zB, zC, i64_w, i32_w]; rfl
  refine pure_ (i := 4) (N := some 24) (v := ?_) (a' := ?_) (bl 33 31) rfl rfl (by kernel_rfl) (fun _ _ _ h => h) (Or.inl ⟨by rfl, ?_⟩) ?_ ?_
  rotate_left
  · intro w'; go_simp; with_reducible rfl
  rotate_left
  · simp only [Act.put, zA, zB, zC, i64_w, i32_w]; rfl
  refine pure_ (i := 5) (N := some 25) (v := ?_) (a' := ?_) (bl 33 63) rfl rfl (by kernel_rfl) (fun _ _ _ h => h) (Or.inl ⟨by rfl, ?_⟩) ?_ ?_
  rotate_left
  · intro w'; go_simp; with_reducible rfl
  rotate_left
  · simp only [Act.put, zA, zB, zC, i64_w, i32_w]; rfl
  refine pure_ (i := 6) (N := some 26) (v := ?_) (a' := ?_) (bl 33 127) rfl rfl (by kernel_rfl) (fun _ _ _ h => h) (Or.inl ⟨by rfl, ?_⟩) ?_ ?_
  rotate_left
  · intro w'; go_simp; with_reducible rfl
  rotate_left
  · simp only [Act.put, zA, zB, zC, i64_w, i32_w]; rfl
  refine pure_ (i := 7) (N := some 27) (v := ?_) (a' := ?_) (bl 33 255) rfl rfl (by kernel_rfl) (fun _ _ _ h => h) (Or.inl ⟨by rfl, ?_⟩) ?_ ?_
  rotate_left
  · intro w'; go_simp; with_reducible rfl
  rotate_left
  · simp only [Act.put, zA, zB, zC, i64_w, i32_w]; rfl
  refine pure_ (i := 8) (N := some 28) (v := ?_) (a' := ?_) (bl 33 511) rfl rfl (by kernel_rfl) (fun _ _ _ h => h) (Or.inl ⟨by rfl, ?_⟩) ?_ ?_
  rotate_left
  · intro w'; go_simp; with_reducible rfl
  rotate_left
  · simp only [Act.put, zA, zB, zC, i64_w, i32_w]; rfl
  refine pure_ (i := 9) (N := some 29) (v := ?_) (a' := ?_) (bl 33 1023) rfl rfl (by kernel_rfl) (fun _ _ _ h => h) (Or.inl ⟨by rfl, ?_⟩) ?_ ?_
  rotate_left
  · intro w'; go_simp; with_reducible rfl
  rotate_left
  · simp only [Act.put, zA, zB, zC, i64_w, i32_w]; rfl
  refine pure_ (i := 10) (N := some 30) (v := ?_) (a' := ?_) (bl 33 2047) rfl rfl (by kernel_rfl) (fun _ _ _ h => h) (Or.inl ⟨by rfl, ?_⟩) ?_ ?_
  rotate_left
  · intro w'; go_simp; with_reducible rfl
  rotate_left
  · simp only [Act.put, zA, zB, zC, i64_w, i32_w]; rfl
  refine pure_ (i := 11) (N := some 31) (v := undef) (a' := ?_) (bl 33 4095) rfl rfl (by kernel_rfl) (fun _ _ _ h => h) (Or.inr ⟨by rfl, rfl⟩) ?_ ?_
  rotate_left
  · simp only [Act.put, zA, zB, zC, i64_w, i32_w]; rfl
  refine pure_ (i := 12) (N := some 32) (v := undef) (a' := ?_) (bl 33 8191) rfl rfl (by kernel_rfl) (fun _ _ _ h => h) (Or.inr ⟨by rfl, rfl⟩) ?_ ?_
  rotate_left
  · simp only [Act.put, zA, zB, zC, i64_w, i32_w]; rfl
  refine pure_ (i := 13) (N := some 33) (v := undef) (a' := ?_) (bl 33 16383) rfl rfl (by kernel_rfl) (fun _ _ _ h => h) (Or.inr ⟨by rfl, rfl⟩) ?_ ?_
  rotate_left
  · simp only [Act.put, zA, zB, zC, i64_w, i32_w]; rfl
  refine pure_ (i := 14) (N := some 34) (v := undef) (a' := ?_) (bl 33 32767) rfl rfl (by kernel_rfl) (fun _ _ _ h => h) (Or.inr ⟨by rfl, rfl⟩) ?_ ?_
  rotate_left
  · simp only [Act.put, zA, zB, zC, i64_w, i32_w]; rfl
  refine pure_ (i := 15) (N := some 35) (v := undef) (a' := ?_) (bl 33 65535) rfl rfl (by kernel_rfl) (fun _ _ _ h => h) (Or.inr ⟨by rfl, rfl⟩) ?_ ?_
  rotate_left
  · simp only [Act.put, zA, zB, zC, i64_w, i32_w]; rfl
  refine pure_ (i := 16) (N := some 36) (v := ?_) (a' := ?_) (bl 33 131071) rfl rfl (by kernel_rfl) (fun _ _ _ h => h) (Or.inl ⟨by rfl, ?_⟩) ?_ ?_
  rotate_left
  · intro w'; go_simp; with_reducible rfl
  rotate_left
  · simp only [Act.put, zA, zB, zC, i64_w, i32_w]; rfl
  refine pure_ (i := 17) (N := some 37) (v := ?_) (a' := ?_) (bl 33 262143) rfl rfl (by kernel_rfl) (fun _ _ _ h => h) (Or.inl ⟨by rfl, ?_⟩) ?_ ?_
  rotate_left
  · intro w'; go_simp; with_reducible rfl
  rotate_left
  · simp only [Act.put, zA, zB, zC, i64_w, i32_w]; rfl
  refine pure_ (i := 18) (N := some 38) (v := undef) (a' := ?_) (bl 33 524287) rfl rfl (by kernel_rfl) (fun _ _ _ h => h) (Or.inr ⟨by rfl, rfl⟩) ?_ ?_
  rotate_left
  · simp only [Act.put, zA, zB, zC, i64_w, i32_w]; rfl
  refine pure_ (i := 19) (N := some 39) (v := undef) (a' := ?_) (bl 33 1048575) rfl rfl (by kernel_rfl) (fun _ _ _ h => h) (Or.inr ⟨by rfl, rfl⟩) ?_ ?_
  rotate_left
  · simp only [Act.put, zA, zB, zC, i64_w, i32_w]; rfl
  refine pure_ (i := 20) (N := some 40) (v := undef) (a' := ?_) (bl 33 2097151) rfl rfl (by kernel_rfl) (fun _ _ _ h => h) (Or.inr ⟨by rfl, rfl⟩) ?_ ?_
  rotate_left
  · simp only [Act.put, zA, zB, zC, i64_w, i32_w]; rfl
  refine pure_ (i := 21) (N := some 41) (v := undef) (a' := ?_) (bl 33 4194303) rfl rfl (by kernel_rfl) (fun _ _ _ h => h) (Or.inr ⟨by rfl, rfl⟩) ?_ ?_
  rotate_left
  · simp only [Act.put, zA, zB, zC, i64_w, i32_w]; rfl
  refine pure_ (i := 22) (N := some 42) (v := undef) (a' := ?_) (bl 33 8388607) rfl rfl (by kernel_rfl) (fun _ _ _ h => h) (Or.inr ⟨by rfl, rfl⟩) ?_ ?_
  rotate_left
  · simp only [Act.put, zA, zB, zC, i64_w, i32_w]; rfl
  refine pure_ (i := 23) (N := some 43) (v := ?_) (a' := ?_) (bl 33 16777215) rfl rfl (by kernel_rfl) (fun _ _ _ h => h) (Or.inl ⟨by rfl, ?_⟩) ?_ ?_
  rotate_left
  · intro w'; go_simp; with_reducible rfl
  rotate_left
  · simp only [Act.put, zA, zB, zC, i64_w, i32_w]; rfl
  refine pure_ (i := 24) (N := some 44) (v := ?_) (a' := ?_) (bl 33 33554431) rfl rfl (by kernel_rfl) (fun _ _ _ h => h) (Or.inl ⟨by rfl, ?_⟩) ?_ ?_
  rotate_left
  · intro w'; go_simp; with_reducible rfl
  rotate_left
  · simp only [Act.put, zA, zB, zC, i64_w, i32_w]; rfl
  refine pure_ (i := 25) (N := some 45) (v := undef) (a' := ?_) (bl 33 67108863) rfl rfl (by kernel_rfl) (fun _ _ _ h => h) (Or.inr ⟨by rfl, rfl⟩) ?_ ?_
  rotate_left
  · simp only [Act.put, zA, zB, zC, i64_w, i32_w]; rfl
  refine pure_ (i := 26) (N := some 46) (v := undef) (a' := ?_) (bl 33 134217727) rfl rfl (by kernel_rfl) (fun _ _ _ h => h) (Or.inr ⟨by rfl, rfl⟩) ?_ ?_
  rotate_left
  · simp only [Act.put, zA, zB, zC, i64_w, i32_w]; rfl
  refine pure_ (i := 27) (N := some 47) (v := undef) (a' := ?_) (bl 33 268435455) rfl rfl (by kernel_rfl) (fun _ _ _ h => h) (Or.inr ⟨by rfl, rfl⟩) ?_ ?_
  rotate_left
  · simp only [Act.put, zA, zB, zC, i64_w, i32_w]; rfl
  refine pure_ (i := 28) (N := some 48) (v := ?_) (a' := ?_) (bl 33 536870911) rfl rfl (by kernel_rfl) (fun _ _ _ h => h) (Or.inl ⟨by rfl, ?_⟩) ?_ ?_
  rotate_left
  · intro w'; go_simp; with_reducible rfl
  rotate_left
  · simp only [Act.put, zA, zB, zC, i64_w, i32_w]; rfl
  refine pure_ (i := 29) (N := some 49) (v := ?_) (a' := ?_) (bl 33 1073741823) rfl rfl (by kernel_rfl) (fun _ _ _ h => h) (Or.inl ⟨by rfl, ?_⟩) ?_ ?_
  rotate_left
  · intro w'; go_simp; with_reducible rfl
  rotate_left
  · simp only [Act.put, zA, zB, zC, i64_w, i32_w]; rfl
  refine pure_ (i := 30) (N := some 50) (v := undef) (a' := ?_) (bl 33 2147483647) rfl rfl (by kernel_rfl) (fun _ _ _ h => h) (Or.inr ⟨by rfl, rfl⟩) ?_ ?_
  rotate_left
  · simp only [Act.put, zA, zB, zC, i64_w, i32_w]; rfl
  refine pure_ (i := 31) (N := some 51) (v := undef) (a' := ?_) (bl 33 4294967295) rfl rfl (by kernel_rfl) (fun _ _ _ h => h) (Or.inr ⟨by rfl, rfl⟩) ?_ ?_
  rotate_left
  · simp only [Act.put, zA, zB, zC, i64_w, i32_w]; rfl
  refine pure_ (i := 32) (N := some 52) (v := ?_) (a' := ?_) (bl 33 8589934591) rfl rfl (by kernel_rfl) (fun _ _ _ h => h) (Or.inl ⟨by rfl, ?_⟩) ?_ ?_
  rotate_left
  · intro w'; go_simp; with_reducible rfl
  rotate_left
  · simp only [Act.put, zA, zB, zC, i64_w, i32_w]; rfl
  refine done_ (by kernel_rfl) ?_
  have C := HB.out.cl
  simp only [Cl, and_true] at C
  obtain ⟨_, _, _, _, _, _, _, _, _, _, _, _⟩ := C
  go_wp2_with fail
  (with_reducible refine (awake_c _).mono ?_); rintro e wv4 ⟨rfl, hb⟩
  replace HB := Aside0.mk (HB.out.step hb)
  clear hb
  have C := HB.out.cl
  simp only [Cl, and_true] at C
  obtain ⟨_, _, _, _, _, _, _, _, _, _, _, _⟩ := C
  go_wp2_with fail
  go_ret
  exact ⟨by first | rfl | (simp; done) | (simp [*]; done), HB.out.below⟩

set_option maxHeartbeats 4000000 in
set_option maxRecDepth 100000 in
theorem early2 (op a1 b1 a2 b2 z1 z2 : Int) (i_a1 : Aside0 (I32 a1)) (i_b1 : Aside0 (I32 b1)) (i_a2 : Aside0 (I32 a2)) (i_b2 : Aside0 (I32 b2)) (hz : Aside0 (iv op a1 b1 a2 b2 = (z1, z2))) (d1 : decide (op < 6) = false) (d2 : decide (9 < op) = false) (d3 : decide (b1 < a1) = true) (w : World) : Calls Try.prog 15 #[.int .u8 op, .agg #[.int .i32 a1, .int .i32 b1], .agg #[.int .i32 a2, .int .i32 b2]] w fun e w' => e = .returned (.bool true) ∧ Below w.heap.size w w' := by
  have hu38 := Try.underlying38
  go_enter Try.func15, Try.ntmps15
  go_upto_region 1 with (fail)
  have HB := Aside0.mk (Bx.start2 w a1 b1 a2 b2)
  generalize World.alloc (World.alloc w _) _ = w0 at HB ⊢
  have C := HB.out.cl
  simp only [Cl, and_true] at C
  obtain ⟨_, _, _, _, _, _, _, _⟩ := C
  go_wp2_with fail
  (with_reducible refine (apply_c _ _ _ _ _ _ _ i_a1.out i_b1.out i_a2.out i_b2.out hz.out _).mono ?_); rintro e wv1 ⟨rfl, hb⟩
  replace HB := Aside0.mk (HB.out.step hb)
  clear hb
  have C := HB.out.cl
  simp only [Cl, and_true] at C
  obtain ⟨_, _, _, _, _, _, _, _⟩ := C
  go_upto_region 2 with (fail)
  have hl7 := blk_lt (HB.out.bk 1 rfl)
  replace HB := Aside0.mk (show Bx w [(w.heap.size, a1, b1), (w.heap.size + 1, a2, b2), (wv1.heap.size, z1, z2)] _ from HB.out.box rfl z1 z2)
  generalize World.alloc wv1 _ = wz at HB ⊢
  generalize wv1.heap.size = g7 at HB hl7 ⊢
  have C := HB.out.cl
  simp only [Cl, and_true] at C
  obtain ⟨_, _, _, _, _, _, _, _, _, _, _, _⟩ := C
  replace HB := Aside0.mk (HB.out.drew)
  refine start_ (n := 33) (S := fun w' => w'.cell? ⟨w.heap.size, 0, none⟩ = some (.int .i32 a1) ∧ w'.cell? ⟨w.heap.size, 1, none⟩ = some (.int .i32 b1)) (ds := []) #[false, false, false, false, false, false, false, false, false, false, false, false, false, false, false, false, false, false, false, false, false, false, false, false, false, false, false, false, false, false, false, false, false] (by kernel_rfl) rfl rfl ⟨HB.out.c0 0 rfl, HB.out.c1 0 rfl⟩ (fun hHeld => ?_)
  generalize wz.drew = wv2 at HB hHeld ⊢
  refine one_ (i := 0) (N := some 20) (bl 33 1) rfl rfl (by kernel_rfl) (by decide) (fun K hK => ?_)
  refine goes_ Try.func28 (by kernel_rfl) rfl #[] (by rfl) rfl rfl (by (try simp only [List.map_toArray, List.map_cons, List.map_nil]); first | done | rfl) ?_
  with_reducible refine (awake_c _).mono ?_
  rintro e wv3 ⟨rfl, hb⟩; refine ⟨_, rfl, ?_⟩
  replace HB := Aside0.mk (HB.out.step hb); clear hb
  refine hK.out _ _ ⟨HB.out.c0 0 rfl, HB.out.c1 0 rfl⟩ (fun hHeld => ?_)
  clear hK K
  refine norm_ (a' := ?_) ?_ ?_; rotate_left
  · show Act.put _ (some 20) _ = _; simp only [Act.put, zA, zB, zC, i64_w, i32_w]; rfl
  refine pure_ (i := 1) (N := some 21) (v := ?_) (a' := ?_) (bl 33 3) rfl rfl (by kernel_rfl) (fun _ _ _ h => h) (Or.inl ⟨by rfl, ?_⟩) ?_ ?_
  rotate_left
  · intro w'; go_simp; with_reducible rfl
  rotate_left
  · simp only [Act.put, zA, zB, zC, i64_w, i32_w]; rfl
  refine pure_ (i := 2) (N := some 22) (v := ?_) (a' := ?_) (bl 33 7) rfl rfl (by kernel_rfl) (fun _ _ _ h => h) (Or.inl ⟨by rfl, ?_⟩) ?_ ?_
  rotate_left
  · intro w'; go_simp; with_reducible rfl
  rotate_left
  · simp only [Act.put, zA, zB, zC, i64_w, i32_w]; rfl
  refine pure_ (i := 3) (N := some 23) (v := ?_) (a' := ?_) (bl 33 15) rfl rfl (by kernel_rfl) (fun _ _ _ h => h) (Or.inl ⟨by rfl, ?_⟩) ?_ ?_
  rotate_left
  · intro w'; go_simp; with_reducible rfl
  rotate_left
  · simp only [Act.put, zA, zB, zC, i64_w, i32_w]; rfl
  refine pure_ (i := 4) (N := some 24) (v := ?_) (a' := ?_) (bl 33 31) rfl rfl (by kernel_rfl) (fun _ _ _ h => h) (Or.inl ⟨by rfl, ?_⟩) ?_ ?_
  rotate_left
  · intro w'; go_simp; with_reducible rfl
  rotate_left
  · simp only [Act.put, zA, zB, zC, i64_w, i32_w]; rfl
  refine pure_ (i := 5) (N := some 25) (v := ?_) (a' := ?_) (bl 33 63) rfl rfl (by kernel_rfl) (fun _ _ _ h => h) (Or.inl ⟨by rfl, ?_⟩) ?_ ?_
  rotate_left
  · intro w'; go_simp; with_reducible rfl
  rotate_left
  · simp only [Act.put, zA, zB, zC, i64_w, i32_w]; rfl
  refine pure_ (i := 6) (N := some 26) (v := ?_) (a' := ?_) (bl 33 127) rfl rfl (by kernel_rfl) (fun _ _ _ h => h) (Or.inl ⟨by rfl, ?_⟩) ?_ ?_
  rotate_left
  · intro w'; go_simp; with_reducible rfl
  rotate_left
  · simp only [Act.put, zA, zB, zC, i64_w, i32_w]; rfl
  refine pure_ (i := 7) (N := some 27) (v := ?_) (a' := ?_) (bl 33 255) rfl rfl (by kernel_rfl) (fun _ _ _ h => h) (Or.inl ⟨by rfl, ?_⟩) ?_ ?_
  rotate_left
  · intro w'; go_simp; with_reducible rfl
  rotate_left
  · simp only [Act.put, zA, zB, zC, i64_w, i32_w]; rfl
  refine pure_ (i := 8) (N := some 28) (v := ?_) (a' := ?_) (bl 33 511) rfl rfl (by kernel_rfl) (fun _ _ _ h => h) (Or.inl ⟨by rfl, ?_⟩) ?_ ?_
  rotate_left
  · intro w'; go_simp; with_reducible rfl
  rotate_left
  · simp only [Act.put, zA, zB, zC, i64_w, i32_w]; rfl
  refine pure_ (i := 9) (N := some 29) (v := ?_) (a' := ?_) (bl 33 1023) rfl rfl (by kernel_rfl) (fun _ _ _ h => h) (Or.inl ⟨by rfl, ?_⟩) ?_ ?_
  rotate_left
  · intro w'; go_simp; with_reducible rfl
  rotate_left
  · simp only [Act.put, zA, zB, zC, i64_w, i32_w]; rfl
  refine pure_ (i := 10) (N := some 30) (v := ?_) (a' := ?_) (bl 33 2047) rfl rfl (by kernel_rfl) (fun _ _ _ h => h) (Or.inl ⟨by rfl, ?_⟩) ?_ ?_
  rotate_left
  · intro w'; go_simp; with_reducible rfl
  rotate_left
  · simp only [Act.put, zA, zB, zC, i64_w, i32_w]; rfl
  refine pure_ (i := 11) (N := some 31) (v := ?_) (a' := ?_) (bl 33 4095) rfl rfl (by kernel_rfl) (fun _ _ _ h => h) (Or.inl ⟨by rfl, ?_⟩) ?_ ?_
  rotate_left
  · intro w'; go_simp; with_reducible rfl
  rotate_left
  · simp only [Act.put, zA, zB, zC, i64_w, i32_w]; rfl
  refine pure_ (i := 13) (N := some 33) (v := ?_) (a' := ?_) (bl 33 12287) rfl rfl (by kernel_rfl) (fun _ _ _ h => h) (Or.inl ⟨by rfl, ?_⟩) ?_ ?_
  rotate_left
  · intro w'; go_simp; with_reducible rfl
  rotate_left
  · simp only [Act.put, zA, zB, zC, i64_w, i32_w]; rfl
  refine take_ (i := 12) (N := some 32) (v := ?_) (a' := ?_) (bl 33 16383) rfl rfl (by kernel_rfl) (fun _ _ _ h => h) (Or.inl ⟨by rfl, ?_⟩) hHeld ?_ ?_
  rotate_left
  · rintro w' ⟨s0, s1⟩; go_simp; with_reducible rfl
  rotate_left
  · simp only [Act.put, zA, zB, zC, i64_w, i32_w]; rfl
  refine take_ (i := 14) (N := some 34) (v := ?_) (a' := ?_) (bl 33 32767) rfl rfl (by kernel_rfl) (fun _ _ _ h => h) (Or.inl ⟨by rfl, ?_⟩) hHeld ?_ ?_
  rotate_left
  · rintro w' ⟨s0, s1⟩; go_simp; with_reducible rfl
  rotate_left
  · simp only [Act.put, zA, zB, zC, i64_w, i32_w]; rfl
  refine pure_ (i := 15) (N := some 35) (v := ?_) (a' := ?_) (bl 33 65535) rfl rfl (by kernel_rfl) (fun _ _ _ h => h) (Or.inl ⟨by rfl, ?_⟩) ?_ ?_
  rotate_left
  · intro w'; go_simp; with_reducible rfl
  rotate_left
  · simp only [Act.put, zA, zB, zC, i64_w, i32_w]; rfl
  refine pure_ (i := 16) (N := some 36) (v := ?_) (a' := ?_) (bl 33 131071) rfl rfl (by kernel_rfl) (fun _ _ _ h => h) (Or.inl ⟨by rfl, ?_⟩) ?_ ?_
  rotate_left
  · intro w'; go_simp; with_reducible rfl
  rotate_left
  · simp only [Act.put, zA, zB, zC, i64_w, i32_w]; rfl
  refine pure_ (i := 17) (N := some 37) (v := ?_) (a' := ?_) (bl 33 262143) rfl rfl (by kernel_rfl) (fun _ _ _ h => h) (Or.inl ⟨by rfl, ?_⟩) ?_ ?_
  rotate_left
  · intro w'; go_simp; with_reducible rfl
  rotate_left
  · simp only [Act.put, zA, zB, zC, i64_w, i32_w]; rfl
  refine pure_ (i := 18) (N := some 38) (v := undef) (a' := ?_) (bl 33 524287) rfl rfl (by kernel_rfl) (fun _ _ _ h => h) (Or.inr ⟨by rfl, rfl⟩) ?_ ?_
  rotate_left
  · simp only [Act.put, zA, zB, zC, i64_w, i32_w]; rfl
  refine pure_ (i := 19) (N := some 39) (v := undef) (a' := ?_) (bl 33 1048575) rfl rfl (by kernel_rfl) (fun _ _ _ h => h) (Or.inr ⟨by rfl, rfl⟩) ?_ ?_
  rotate_left
  · simp only [Act.put, zA, zB, zC, i64_w, i32_w]; rfl
  refine pure_ (i := 20) (N := some 40) (v := undef) (a' := ?_) (bl 33 2097151) rfl rfl (by kernel_rfl) (fun _ _ _ h => h) (Or.inr ⟨by rfl, rfl⟩) ?_ ?_
  rotate_left
  · simp only [Act.put, zA, zB, zC, i64_w, i32_w]; rfl
  refine pure_ (i := 21) (N := some 41) (v := undef) (a' := ?_) (bl 33 4194303) rfl rfl (by kernel_rfl) (fun _ _ _ h => h) (Or.inr ⟨by rfl, rfl⟩) ?_ ?_
  rotate_left
  · simp only [Act.put, zA, zB, zC, i64_w, i32_w]; rfl
  refine pure_ (i := 22) (N := some 42) (v := undef) (a' := ?_) (bl 33 8388607) rfl rfl (by kernel_rfl) (fun _ _ _ h => h) (Or.inr ⟨by rfl, rfl⟩) ?_ ?_
  rotate_left
  · simp only [Act.put, zA, zB, zC, i64_w, i32_w]; rfl
  refine pure_ (i := 23) (N := some 43) (v := ?_) (a' := ?_) (bl 33 16777215) rfl rfl (by kernel_rfl) (fun _ _ _ h => h) (Or.inl ⟨by rfl, ?_⟩) ?_ ?_
  rotate_left
  · intro w'; go_simp; with_reducible rfl
  rotate_left
  · simp only [Act.put, zA, zB, zC, i64_w, i32_w]; rfl
  refine pure_ (i := 24) (N := some 44) (v := ?_) (a' := ?_) (bl 33 33554431) rfl rfl (by kernel_rfl) (fun _ _ _ h => h) (Or.inl ⟨by rfl, ?_⟩) ?_ ?_
  rotate_left
  · intro w'; go_simp; with_reducible rfl
  rotate_left
  · simp only [Act.put, zA, zB, zC, i64_w, i32_w]; rfl
  refine pure_ (i := 25) (N := some 45) (v := undef) (a' := ?_) (bl 33 67108863) rfl rfl (by kernel_rfl) (fun _ _ _ h => h) (Or.inr ⟨by rfl, rfl⟩) ?_ ?_
  rotate_left
  · simp only [Act.put, zA, zB, zC, i64_w, i32_w]; rfl
  refine pure_ (i := 26) (N := some 46) (v := undef) (a' := ?_) (bl 33 134217727) rfl rfl (by kernel_rfl) (fun _ _ _ h => h) (Or.inr ⟨by rfl, rfl⟩) ?_ ?_
  rotate_left
  · simp only [Act.put, zA, zB, zC, i64_w, i32_w]; rfl
  refine pure_ (i := 27) (N := some 47) (v := undef) (a' := ?_) (bl 33 268435455) rfl rfl (by kernel_rfl) (fun _ _ _ h => h) (Or.inr ⟨by rfl, rfl⟩) ?_ ?_
  rotate_left
  · simp only [Act.put, zA, zB, zC, i64_w, i32_w]; rfl
  refine pure_ (i := 28) (N := some 48) (v := ?_) (a' := ?_) (bl 33 536870911) rfl rfl (by kernel_rfl) (fun _ _ _ h => h) (Or.inl ⟨by rfl, ?_⟩) ?_ ?_
  rotate_left
  · intro w'; go_simp; with_reducible rfl
  rotate_left
  · simp only [Act.put, zA, zB, zC, i64_w, i32_w]; rfl
  refine pure_ (i := 29) (N := some 49) (v := ?_) (a' := ?_) (bl 33 1073741823) rfl rfl (by kernel_rfl) (fun _ _ _ h => h) (Or.inl ⟨by rfl, ?_⟩) ?_ ?_
  rotate_left
  · intro w'; go_simp; with_reducible rfl
  rotate_left
  · simp only [Act.put, zA, zB, zC, i64_w, i32_w]; rfl
  refine pure_ (i := 30) (N := some 50) (v := undef) (a' := ?_) (bl 33 2147483647) rfl rfl (by kernel_rfl) (fun _ _ _ h => h) (Or.inr ⟨by rfl, rfl⟩) ?_ ?_
  rotate_left
  · simp only [Act.put, zA, zB, zC, i64_w, i32_w]; rfl
  refine pure_ (i := 31) (N := some 51) (v := undef) (a' := ?_) (bl 33 4294967295) rfl rfl (by kernel_rfl) (fun _ _ _ h => h) (Or.inr ⟨by rfl, rfl⟩) ?_ ?_
  rotate_left
  · simp only [Act.put, zA, zB, zC, i64_w, i32_w]; rfl
  refine pure_ (i := 32) (N := some 52) (v := ?_) (a' := ?_) (bl 33 8589934591) rfl rfl (by kernel_rfl) (fun _ _ _ h => h) (Or.inl ⟨by rfl, ?_⟩) ?_ ?_
  rotate_left
  · intro w'; go_simp; with_reducible rfl
  rotate_left
  · simp only [Act.put, zA, zB, zC, i64_w, i32_w]; rfl
  refine done_ (by kernel_rfl) ?_
  have C := HB.out.cl
  simp only [Cl, and_true] at C
  obtain ⟨_, _, _, _, _, _, _, _, _, _, _, _⟩ := C
  go_wp2_with fail
  (with_reducible refine (awake_c _).mono ?_); rintro e wv4 ⟨rfl, hb⟩
  replace HB := Aside0.mk (HB.out.step hb)
  clear hb
  have C := HB.out.cl
  simp only [Cl, and_true] at C
  obtain ⟨_, _, _, _, _, _, _, _, _, _, _, _⟩ := C
  go_wp2_with fail
  go_ret
  exact ⟨by first | rfl | (simp; done) | (simp [*]; done), HB.out.below⟩

set_option maxHeartbeats 4000000 in
set_option maxRecDepth 100000 in
theorem early3 (op a1 b1 a2 b2 z1 z2 : Int) (i_a1 : Aside0 (I32 a1)) (i_b1 : Aside0 (I32 b1)) (i_a2 : Aside0 (I32 a2)) (i_b2 : Aside0 (I32 b2)) (hz : Aside0 (iv op a1 b1 a2 b2 = (z1, z2))) (d1 : decide (op < 6) = false) (d2 : decide (9 < op) = false) (d3 : decide (b1 < a1) = false) (d4 : decide (b2 < a2) = true) (w : World) : Calls Try.prog 15 #[.int .u8 op, .agg #[.int .i32 a1, .int .i32 b1], .agg #[.int .i32 a2, .int .i32 b2]] w fun e w' => e = .returned (.bool true) ∧ Below w.heap.size w w' := by
  have hu38 := Try.underlying38
  go_enter Try.func15, Try.ntmps15
  go_upto_region 1 with (fail)
  have HB := Aside0.mk (Bx.start2 w a1 b1 a2 b2)
  generalize World.alloc (World.alloc w _) _ = w0 at HB ⊢
  have C := HB.out.cl
  simp only [Cl, and_true] at C
  obtain ⟨_, _, _, _, _, _, _, _⟩ := C
  go_wp2_with fail
  (with_reducible refine (apply_c _ _ _ _ _ _ _ i_a1.out i_b1.out i_a2.out i_b2.out hz.out _).mono ?_); rintro e wv1 ⟨rfl, hb⟩
  replace HB := Aside0.mk (HB.out.step hb)
  clear hb
  have C := HB.out.cl
  simp only [Cl, and_true] at C
  obtain ⟨_, _, _, _, _, _, _, _⟩ := C
  go_upto_region 2 with (fail)
  have hl7 := blk_lt (HB.out.bk 1 rfl)
  replace HB := Aside0.mk (show Bx w [(w.heap.size, a1, b1), (w.heap.size + 1, a2, b2), (wv1.heap.size, z1, z2)] _ from HB.out.box rfl z1 z2)
  generalize World.alloc wv1 _ = wz at HB ⊢
  generalize wv1.heap.size = g7 at HB hl7 ⊢
  have C := HB.out.cl
  simp only [Cl, and_true] at C
  obtain ⟨_, _, _, _, _, _, _, _, _, _, _, _⟩ := C
  replace HB := Aside0.mk (HB.out.drew)
  refine start_ (n := 33) (S := fun w' => w'.cell? ⟨w.heap.size, 0, none⟩ = some (.int .i32 a1) ∧ w'.cell? ⟨w.heap.size, 1, none⟩ = some (.int .i32 b1) ∧ w'.cell? ⟨w.heap.size + 1, 0, none⟩ = some (.int .i32 a2) ∧ w'.cell? ⟨w.heap.size + 1, 1, none⟩ = some (.int .i32 b2)) (ds := []) #[false, false, false, false, false, false, false, false, false, false, false, false, false, false, false, false, false, false, false, false, false, false, false, false, false, false, false, false, false, false, false, false, false] (by kernel_rfl) rfl rfl ⟨HB.out.c0 0 rfl, HB.out.c1 0 rfl, HB.out.c0 1 rfl, HB.out.c1 1 rfl⟩ (fun hHeld => ?_)
  generalize wz.drew = wv2 at HB hHeld ⊢
  refine one_ (i := 0) (N := some 20) (bl 33 1) rfl rfl (by kernel_rfl) (by decide) (fun K hK => ?_)
  refine goes_ Try.func28 (by kernel_rfl) rfl #[] (by rfl) rfl rfl (by (try simp only [List.map_toArray, List.map_cons, List.map_nil]); first | done | rfl) ?_
  with_reducible refine (awake_c _).mono ?_
  rintro e wv3 ⟨rfl, hb⟩; refine ⟨_, rfl, ?_⟩
  replace HB := Aside0.mk (HB.out.step hb); clear hb
  refine hK.out _ _ ⟨HB.out.c0 0 rfl, HB.out.c1 0 rfl, HB.out.c0 1 rfl, HB.out.c1 1 rfl⟩ (fun hHeld => ?_)
  clear hK K
  refine norm_ (a' := ?_) ?_ ?_; rotate_left
  · show Act.put _ (some 20) _ = _; simp only [Act.put, zA, zB, zC, i64_w, i32_w]; rfl
  refine pure_ (i := 1) (N := some 21) (v := ?_) (a' := ?_) (bl 33 3) rfl rfl (by kernel_rfl) (fun _ _ _ h => h) (Or.inl ⟨by rfl, ?_⟩) ?_ ?_
  rotate_left
  · intro w'; go_simp; with_reducible rfl
  rotate_left
  · simp only [Act.put, zA, zB, zC, i64_w, i32_w]; rfl
  refine pure_ (i := 2) (N := some 22) (v := ?_) (a' := ?_) (bl 33 7) rfl rfl (by kernel_rfl) (fun _ _ _ h => h) (Or.inl ⟨by rfl, ?_⟩) ?_ ?_
  rotate_left
  · intro w'; go_simp; with_reducible rfl
  rotate_left
  · simp only [Act.put, zA, zB, zC, i64_w, i32_w]; rfl
  refine pure_ (i := 3) (N := some 23) (v := ?_) (a' := ?_) (bl 33 15) rfl rfl (by kernel_rfl) (fun _ _ _ h => h) (Or.inl ⟨by rfl, ?_⟩) ?_ ?_
  rotate_left
  · intro w'; go_simp; with_reducible rfl
  rotate_left
  · simp only [Act.put, zA, zB, zC, i64_w, i32_w]; rfl
  refine pure_ (i := 4) (N := some 24) (v := ?_) (a' := ?_) (bl 33 31) rfl rfl (by kernel_rfl) (fun _ _ _ h => h) (Or.inl ⟨by rfl, ?_⟩) ?_ ?_
  rotate_left
  · intro w'; go_simp; with_reducible rfl
  rotate_left
  · simp only [Act.put, zA, zB, zC, i64_w, i32_w]; rfl
  refine pure_ (i := 5) (N := some 25) (v := ?_) (a' := ?_) (bl 33 63) rfl rfl (by kernel_rfl) (fun _ _ _ h => h) (Or.inl ⟨by rfl, ?_⟩) ?_ ?_
  rotate_left
  · intro w'; go_simp; with_reducible rfl
  rotate_left
  · simp only [Act.put, zA, zB, zC, i64_w, i32_w]; rfl
  refine pure_ (i := 6) (N := some 26) (v := ?_) (a' := ?_) (bl 33 127) rfl rfl (by kernel_rfl) (fun _ _ _ h => h) (Or.inl ⟨by rfl, ?_⟩) ?_ ?_
  rotate_left
  · intro w'; go_simp; with_reducible rfl
  rotate_left
  · simp only [Act.put, zA, zB, zC, i64_w, i32_w]; rfl
  refine pure_ (i := 7) (N := some 27) (v := ?_) (a' := ?_) (bl 33 255) rfl rfl (by kernel_rfl) (fun _ _ _ h => h) (Or.inl ⟨by rfl, ?_⟩) ?_ ?_
  rotate_left
  · intro w'; go_simp; with_reducible rfl
  rotate_left
  · simp only [Act.put, zA, zB, zC, i64_w, i32_w]; rfl
  refine pure_ (i := 8) (N := some 28) (v := ?_) (a' := ?_) (bl 33 511) rfl rfl (by kernel_rfl) (fun _ _ _ h => h) (Or.inl ⟨by rfl, ?_⟩) ?_ ?_
  rotate_left
  · intro w'; go_simp; with_reducible rfl
  rotate_left
  · simp only [Act.put, zA, zB, zC, i64_w, i32_w]; rfl
  refine pure_ (i := 9) (N := some 29) (v := ?_) (a' := ?_) (bl 33 1023) rfl rfl (by kernel_rfl) (fun _ _ _ h => h) (Or.inl ⟨by rfl, ?_⟩) ?_ ?_
  rotate_left
  · intro w'; go_simp; with_reducible rfl
  rotate_left
  · simp only [Act.put, zA, zB, zC, i64_w, i32_w]; rfl
  refine pure_ (i := 10) (N := some 30) (v := ?_) (a' := ?_) (bl 33 2047) rfl rfl (by kernel_rfl) (fun _ _ _ h => h) (Or.inl ⟨by rfl, ?_⟩) ?_ ?_
  rotate_left
  · intro w'; go_simp; with_reducible rfl
  rotate_left
  · simp only [Act.put, zA, zB, zC, i64_w, i32_w]; rfl
  refine pure_ (i := 11) (N := some 31) (v := ?_) (a' := ?_) (bl 33 4095) rfl rfl (by kernel_rfl) (fun _ _ _ h => h) (Or.inl ⟨by rfl, ?_⟩) ?_ ?_
  rotate_left
  · intro w'; go_simp; with_reducible rfl
  rotate_left
  · simp only [Act.put, zA, zB, zC, i64_w, i32_w]; rfl
  refine pure_ (i := 13) (N := some 33) (v := ?_) (a' := ?_) (bl 33 12287) rfl rfl (by kernel_rfl) (fun _ _ _ h => h) (Or.inl ⟨by rfl, ?_⟩) ?_ ?_
  rotate_left
  · intro w'; go_simp; with_reducible rfl
  rotate_left
  · simp only [Act.put, zA, zB, zC, i64_w, i32_w]; rfl
  refine take_ (i := 12) (N := some 32) (v := ?_) (a' := ?_) (bl 33 16383) rfl rfl (by kernel_rfl) (fun _ _ _ h => h) (Or.inl ⟨by rfl, ?_⟩) hHeld ?_ ?_
  rotate_left
  · rintro w' ⟨s0, s1, s2, s3⟩; go_simp; with_reducible rfl
  rotate_left
  · simp only [Act.put, zA, zB, zC, i64_w, i32_w]; rfl
  refine take_ (i := 14) (N := some 34) (v := ?_) (a' := ?_) (bl 33 32767) rfl rfl (by kernel_rfl) (fun _ _ _ h => h) (Or.inl ⟨by rfl, ?_⟩) hHeld ?_ ?_
  rotate_left
  · rintro w' ⟨s0, s1, s2, s3⟩; go_simp; with_reducible rfl
  rotate_left
  · simp only [Act.put, zA, zB, zC, i64_w, i32_w]; rfl
  refine pure_ (i := 15) (N := some 35) (v := ?_) (a' := ?_) (bl 33 65535) rfl rfl (by kernel_rfl) (fun _ _ _ h => h) (Or.inl ⟨by rfl, ?_⟩) ?_ ?_
  rotate_left
  · intro w'; go_simp; with_reducible rfl
  rotate_left
  · simp only [Act.put, zA, zB, zC, i64_w, i32_w]; rfl
  refine pure_ (i := 16) (N := some 36) (v := ?_) (a' := ?_) (bl 33 131071) rfl rfl (by kernel_rfl) (fun _ _ _ h => h) (Or.inl ⟨by rfl, ?_⟩) ?_ ?_
  rotate_left
  · intro w'; go_simp; with_reducible rfl
  rotate_left
  · simp only [Act.put, zA, zB, zC, i64_w, i32_w]; rfl
  refine pure_ (i := 17) (N := some 37) (v := ?_) (a' := ?_) (bl 33 262143) rfl rfl (by kernel_rfl) (fun _ _ _ h => h) (Or.inl ⟨by rfl, ?_⟩) ?_ ?_
  rotate_left
  · intro w'; go_simp; with_reducible rfl
  rotate_left
  · simp only [Act.put, zA, zB, zC, i64_w, i32_w]; rfl
  refine pure_ (i := 18) (N := some 38) (v := ?_) (a' := ?_) (bl 33 524287) rfl rfl (by kernel_rfl) (fun _ _ _ h => h) (Or.inl ⟨by rfl, ?_⟩) ?_ ?_
  rotate_left
  · intro w'; go_simp; with_reducible rfl
  rotate_left
  · simp only [Act.put, zA, zB, zC, i64_w, i32_w]; rfl
  refine pure_ (i := 20) (N := some 40) (v := ?_) (a' := ?_) (bl 33 1572863) rfl rfl (by kernel_rfl) (fun _ _ _ h => h) (Or.inl ⟨by rfl, ?_⟩) ?_ ?_
  rotate_left
  · intro w'; go_simp; with_reducible rfl
  rotate_left
  · simp only [Act.put, zA, zB, zC, i64_w, i32_w]; rfl
  refine take_ (i := 19) (N := some 39) (v := ?_) (a' := ?_) (bl 33 2097151) rfl rfl (by kernel_rfl) (fun _ _ _ h => h) (Or.inl ⟨by rfl, ?_⟩) hHeld ?_ ?_
  rotate_left
  · rintro w' ⟨s0, s1, s2, s3⟩; go_simp; with_reducible rfl
  rotate_left
  · simp only [Act.put, zA, zB, zC, i64_w, i32_w]; rfl
  refine take_ (i := 21) (N := some 41) (v := ?_) (a' := ?_) (bl 33 4194303) rfl rfl (by kernel_rfl) (fun _ _ _ h => h) (Or.inl ⟨by rfl, ?_⟩) hHeld ?_ ?_
  rotate_left
  · rintro w' ⟨s0, s1, s2, s3⟩; go_simp; with_reducible rfl
  rotate_left
  · simp only [Act.put, zA, zB, zC, i64_w, i32_w]; rfl
  refine pure_ (i := 22) (N := some 42) (v := ?_) (a' := ?_) (bl 33 8388607) rfl rfl (by kernel_rfl) (fun _ _ _ h => h) (Or.inl ⟨by rfl, ?_⟩) ?_ ?_
  rotate_left
  · intro w'; go_simp; with_reducible rfl
  rotate_left
  · simp only [Act.put, zA, zB, zC, i64_w, i32_w]; rfl
  refine pure_ (i := 23) (N := some 43) (v := ?_) (a' := ?_) (bl 33 16777215) rfl rfl (by kernel_rfl) (fun _ _ _ h => h) (Or.inl ⟨by rfl, ?_⟩) ?_ ?_
  rotate_left
  · intro w'; go_simp; with_reducible rfl
  rotate_left
  · simp only [Act.put, zA, zB, zC, i64_w, i32_w]; rfl
  refine pure_ (i := 24) (N := some 44) (v := ?_) (a' := ?_) (bl 33 33554431) rfl rfl (by kernel_rfl) (fun _ _ _ h => h) (Or.inl ⟨by rfl, ?_⟩) ?_ ?_
  rotate_left
  · intro w'; go_simp; with_reducible rfl
  rotate_left
  · simp only [Act.put, zA, zB, zC, i64_w, i32_w]; rfl
  refine pure_ (i := 25) (N := some 45) (v := undef) (a' := ?_) (bl 33 67108863) rfl rfl (by kernel_rfl) (fun _ _ _ h => h) (Or.inr ⟨by rfl, rfl⟩) ?_ ?_
  rotate_left
  · simp only [Act.put, zA, zB, zC, i64_w, i32_w]; rfl
  refine pure_ (i := 26) (N := some 46) (v := undef) (a' := ?_) (bl 33 134217727) rfl rfl (by kernel_rfl) (fun _ _ _ h => h) (Or.inr ⟨by rfl, rfl⟩) ?_ ?_
  rotate_left
  · simp only [Act.put, zA, zB, zC, i64_w, i32_w]; rfl
  refine pure_ (i := 27) (N := some 47) (v := undef) (a' := ?_) (bl 33 268435455) rfl rfl (by kernel_rfl) (fun _ _ _ h => h) (Or.inr ⟨by rfl, rfl⟩) ?_ ?_
  rotate_left
  · simp only [Act.put, zA, zB, zC, i64_w, i32_w]; rfl
  refine pure_ (i := 28) (N := some 48) (v := ?_) (a' := ?_) (bl 33 536870911) rfl rfl (by kernel_rfl) (fun _ _ _ h => h) (Or.inl ⟨by rfl, ?_⟩) ?_ ?_
  rotate_left
  · intro w'; go_simp; with_reducible rfl
  rotate_left
  · simp only [Act.put, zA, zB, zC, i64_w, i32_w]; rfl
  refine pure_ (i := 29) (N := some 49) (v := ?_) (a' := ?_) (bl 33 1073741823) rfl rfl (by kernel_rfl) (fun _ _ _ h => h) (Or.inl ⟨by rfl, ?_⟩) ?_ ?_
  rotate_left
  · intro w'; go_simp; with_reducible rfl
  rotate_left
  · simp only [Act.put, zA, zB, zC, i64_w, i32_w]; rfl
  refine pure_ (i := 30) (N := some 50) (v := undef) (a' := ?_) (bl 33 2147483647) rfl rfl (by kernel_rfl) (fun _ _ _ h => h) (Or.inr ⟨by rfl, rfl⟩) ?_ ?_
  rotate_left
  · simp only [Act.put, zA, zB, zC, i64_w, i32_w]; rfl
  refine pure_ (i := 31) (N := some 51) (v := undef) (a' := ?_) (bl 33 4294967295) rfl rfl (by kernel_rfl) (fun _ _ _ h => h) (Or.inr ⟨by rfl, rfl⟩) ?_ ?_
  rotate_left
  · simp only [Act.put, zA, zB, zC, i64_w, i32_w]; rfl
  refine pure_ (i := 32) (N := some 52) (v := ?_) (a' := ?_) (bl 33 8589934591) rfl rfl (by kernel_rfl) (fun _ _ _ h => h) (Or.inl ⟨by rfl, ?_⟩) ?_ ?_
  rotate_left
  · intro w'; go_simp; with_reducible rfl
  rotate_left
  · simp only [Act.put, zA, zB, zC, i64_w, i32_w]; rfl
  refine done_ (by kernel_rfl) ?_
  have C := HB.out.cl
  simp only [Cl, and_true] at C
  obtain ⟨_, _, _, _, _, _, _, _, _, _, _, _⟩ := C
  go_wp2_with fail
  (with_reducible refine (awake_c _).mono ?_); rintro e wv4 ⟨rfl, hb⟩
  replace HB := Aside0.mk (HB.out.step hb)
  clear hb
  have C := HB.out.cl
  simp only [Cl, and_true] at C
  obtain ⟨_, _, _, _, _, _, _, _, _, _, _, _⟩ := C
  go_wp2_with fail
  go_ret
  exact ⟨by first | rfl | (simp; done) | (simp [*]; done), HB.out.below⟩

set_option maxHeartbeats 4000000 in
set_option maxRecDepth 100000 in
theorem early4 (op a1 b1 a2 b2 z1 z2 : Int) (i_a1 : Aside0 (I32 a1)) (i_b1 : Aside0 (I32 b1)) (i_a2 : Aside0 (I32 a2)) (i_b2 : Aside0 (I32 b2)) (hz : Aside0 (iv op a1 b1 a2 b2 = (z1, z2))) (d1 : decide (op < 6) = false) (d2 : decide (9 < op) = false) (d3 : decide (b1 < a1) = false) (d4 : decide (b2 < a2) = false) (hf : z1 = -2147483648 ∧ z2 = 2147483647) (w : World) : Calls Try.prog 15 #[.int .u8 op, .agg #[.int .i32 a1, .int .i32 b1], .agg #[.int .i32 a2, .int .i32 b2]] w fun e w' => e = .returned (.bool true) ∧ Below w.heap.size w w' := by
  obtain ⟨rfl, rfl⟩ := hf
  have hu38 := Try.underlying38
  go_enter Try.func15, Try.ntmps15
  go_upto_region 1 with (fail)
  have HB := Aside0.mk (Bx.start2 w a1 b1 a2 b2)
  generalize World.alloc (World.alloc w _) _ = w0 at HB ⊢
  have C := HB.out.cl
  simp only [Cl, and_true] at C
  obtain ⟨_, _, _, _, _, _, _, _⟩ := C
  go_wp2_with fail
  (with_reducible refine (apply_c _ _ _ _ _ _ _ i_a1.out i_b1.out i_a2.out i_b2.out hz.out _).mono ?_); rintro e wv1 ⟨rfl, hb⟩
  replace HB := Aside0.mk (HB.out.step hb)
  clear hb
  have C := HB.out.cl
  simp only [Cl, and_true] at C
  obtain ⟨_, _, _, _, _, _, _, _⟩ := C
  go_upto_region 2 with (fail)
  have hl7 := blk_lt (HB.out.bk 1 rfl)
  replace HB := Aside0.mk (show Bx w [(w.heap.size, a1, b1), (w.heap.size + 1, a2, b2), (wv1.heap.size, (-2147483648), 2147483647)] _ from HB.out.box rfl (-2147483648) 2147483647)
  generalize World.alloc wv1 _ = wz at HB ⊢
  generalize wv1.heap.size = g7 at HB hl7 ⊢
  have C := HB.out.cl
  simp only [Cl, and_true] at C
  obtain ⟨_, _, _, _, _, _, _, _, _, _, _, _⟩ := C
  replace HB := Aside0.mk (HB.out.drew)
  refine start_ (n := 33) (S := fun w' => w'.cell? ⟨w.heap.size, 0, none⟩ = some (.int .i32 a1) ∧ w'.cell? ⟨w.heap.size, 1, none⟩ = some (.int .i32 b1) ∧ w'.cell? ⟨w.heap.size + 1, 0, none⟩ = some (.int .i32 a2) ∧ w'.cell? ⟨w.heap.size + 1, 1, none⟩ = some (.int .i32 b2) ∧ w'.cell? ⟨g7, 0, none⟩ = some (.int .i32 (-2147483648)) ∧ w'.cell? ⟨g7, 1, none⟩ = some (.int .i32 2147483647)) (ds := []) #[false, false, false, false, false, false, false, false, false, false, false, false, false, false, false, false, false, false, false, false, false, false, false, false, false, false, false, false, false, false, false, false, false] (by kernel_rfl) rfl rfl ⟨HB.out.c0 0 rfl, HB.out.c1 0 rfl, HB.out.c0 1 rfl, HB.out.c1 1 rfl, HB.out.c0 2 rfl, HB.out.c1 2 rfl⟩ (fun hHeld => ?_)
  generalize wz.drew = wv2 at HB hHeld ⊢
  refine one_ (i := 0) (N := some 20) (bl 33 1) rfl rfl (by kernel_rfl) (by decide) (fun K hK => ?_)
  refine goes_ Try.func28 (by kernel_rfl) rfl #[] (by rfl) rfl rfl (by (try simp only [List.map_toArray, List.map_cons, List.map_nil]); first | done | rfl) ?_
  with_reducible refine (awake_c _).mono ?_
  rintro e wv3 ⟨rfl, hb⟩; refine ⟨_, rfl, ?_⟩
  replace HB := Aside0.mk (HB.out.step hb); clear hb
  refine hK.out _ _ ⟨HB.out.c0 0 rfl, HB.out.c1 0 rfl, HB.out.c0 1 rfl, HB.out.c1 1 rfl, HB.out.c0 2 rfl, HB.out.c1 2 rfl⟩ (fun hHeld => ?_)
  clear hK K
  refine norm_ (a' := ?_) ?_ ?_; rotate_left
  · show Act.put _ (some 20) _ = _; simp only [Act.put, zA, zB, zC, i64_w, i32_w]; rfl
  refine pure_ (i := 1) (N := some 21) (v := ?_) (a' := ?_) (bl 33 3) rfl rfl (by kernel_rfl) (fun _ _ _ h => h) (Or.inl ⟨by rfl, ?_⟩) ?_ ?_
  rotate_left
  · intro w'; go_simp; with_reducible rfl
  rotate_left
  · simp only [Act.put, zA, zB, zC, i64_w, i32_w]; rfl
  refine pure_ (i := 2) (N := some 22) (v := ?_) (a' := ?_) (bl 33 7) rfl rfl (by kernel_rfl) (fun _ _ _ h => h) (Or.inl ⟨by rfl, ?_⟩) ?_ ?_
  rotate_left
  · intro w'; go_simp; with_reducible rfl
  rotate_left
  · simp only [Act.put, zA, zB, zC, i64_w, i32_w]; rfl
  refine pure_ (i := 3) (N := some 23) (v := ?_) (a' := ?_) (bl 33 15) rfl rfl (by kernel_rfl) (fun _ _ _ h => h) (Or.inl ⟨by rfl, ?_⟩) ?_ ?_
  rotate_left
  · intro w'; go_simp; with_reducible rfl
  rotate_left
  · simp only [Act.put, zA, zB, zC, i64_w, i32_w]; rfl
  refine pure_ (i := 4) (N := some 24) (v := ?_) (a' := ?_) (bl 33 31) rfl rfl (by kernel_rfl) (fun _ _ _ h => h) (Or.inl ⟨by rfl, ?_⟩) ?_ ?_
  rotate_left
  · intro w'; go_simp; with_reducible rfl
  rotate_left
  · simp only [Act.put, zA, zB, zC, i64_w, i32_w]; rfl
  refine pure_ (i := 5) (N := some 25) (v := ?_) (a' := ?_) (bl 33 63) rfl rfl (by kernel_rfl) (fun _ _ _ h => h) (Or.inl ⟨by rfl, ?_⟩) ?_ ?_
  rotate_left
  · intro w'; go_simp; with_reducible rfl
  rotate_left
  · simp only [Act.put, zA, zB, zC, i64_w, i32_w]; rfl
  refine pure_ (i := 6) (N := some 26) (v := ?_) (a' := ?_) (bl 33 127) rfl rfl (by kernel_rfl) (fun _ _ _ h => h) (Or.inl ⟨by rfl, ?_⟩) ?_ ?_
  rotate_left
  · intro w'; go_simp; with_reducible rfl
  rotate_left
  · simp only [Act.put, zA, zB, zC, i64_w, i32_w]; rfl
  refine pure_ (i := 7) (N := some 27) (v := ?_) (a' := ?_) (bl 33 255) rfl rfl (by kernel_rfl) (fun _ _ _ h => h) (Or.inl ⟨by rfl, ?_⟩) ?_ ?_
  rotate_left
  · intro w'; go_simp; with_reducible rfl
  rotate_left
  · simp only [Act.put, zA, zB, zC, i64_w, i32_w]; rfl
  refine pure_ (i := 8) (N := some 28) (v := ?_) (a' := ?_) (bl 33 511) rfl rfl (by kernel_rfl) (fun _ _ _ h => h) (Or.inl ⟨by rfl, ?_⟩) ?_ ?_
  rotate_left
  · intro w'; go_simp; with_reducible rfl
  rotate_left
  · simp only [Act.put, zA, zB, zC, i64_w, i32_w]; rfl
  refine pure_ (i := 9) (N := some 29) (v := ?_) (a' := ?_) (bl 33 1023) rfl rfl (by kernel_rfl) (fun _ _ _ h => h) (Or.inl ⟨by rfl, ?_⟩) ?_ ?_
  rotate_left
  · intro w'; go_simp; with_reducible rfl
  rotate_left
  · simp only [Act.put, zA, zB, zC, i64_w, i32_w]; rfl
  refine pure_ (i := 10) (N := some 30) (v := ?_) (a' := ?_) (bl 33 2047) rfl rfl (by kernel_rfl) (fun _ _ _ h => h) (Or.inl ⟨by rfl, ?_⟩) ?_ ?_
  rotate_left
  · intro w'; go_simp; with_reducible rfl
  rotate_left
  · simp only [Act.put, zA, zB, zC, i64_w, i32_w]; rfl
  refine pure_ (i := 11) (N := some 31) (v := ?_) (a' := ?_) (bl 33 4095) rfl rfl (by kernel_rfl) (fun _ _ _ h => h) (Or.inl ⟨by rfl, ?_⟩) ?_ ?_
  rotate_left
  · intro w'; go_simp; with_reducible rfl
  rotate_left
  · simp only [Act.put, zA, zB, zC, i64_w, i32_w]; rfl
  refine pure_ (i := 13) (N := some 33) (v := ?_) (a' := ?_) (bl 33 12287) rfl rfl (by kernel_rfl) (fun _ _ _ h => h) (Or.inl ⟨by rfl, ?_⟩) ?_ ?_
  rotate_left
  · intro w'; go_simp; with_reducible rfl
  rotate_left
  · simp only [Act.put, zA, zB, zC, i64_w, i32_w]; rfl
  refine take_ (i := 12) (N := some 32) (v := ?_) (a' := ?_) (bl 33 16383) rfl rfl (by kernel_rfl) (fun _ _ _ h => h) (Or.inl ⟨by rfl, ?_⟩) hHeld ?_ ?_
  rotate_left
  · rintro w' ⟨s0, s1, s2, s3, s4, s5⟩; go_simp; with_reducible rfl
  rotate_left
  · simp only [Act.put, zA, zB, zC, i64_w, i32_w]; rfl
  refine take_ (i := 14) (N := some 34) (v := ?_) (a' := ?_) (bl 33 32767) rfl rfl (by kernel_rfl) (fun _ _ _ h => h) (Or.inl ⟨by rfl, ?_⟩) hHeld ?_ ?_
  rotate_left
  · rintro w' ⟨s0, s1, s2, s3, s4, s5⟩; go_simp; with_reducible rfl
  rotate_left
  · simp only [Act.put, zA, zB, zC, i64_w, i32_w]; rfl
  refine pure_ (i := 15) (N := some 35) (v := ?_) (a' := ?_) (bl 33 65535) rfl rfl (by kernel_rfl) (fun _ _ _ h => h) (Or.inl ⟨by rfl, ?_⟩) ?_ ?_
  rotate_left
  · intro w'; go_simp; with_reducible rfl
  rotate_left
  · simp only [Act.put, zA, zB, zC, i64_w, i32_w]; rfl
  refine pure_ (i := 16) (N := some 36) (v := ?_) (a' := ?_) (bl 33 131071) rfl rfl (by kernel_rfl) (fun _ _ _ h => h) (Or.inl ⟨by rfl, ?_⟩) ?_ ?_
  rotate_left
  · intro w'; go_simp; with_reducible rfl
  rotate_left
  · simp only [Act.put, zA, zB, zC, i64_w, i32_w]; rfl
  refine pure_ (i := 17) (N := some 37) (v := ?_) (a' := ?_) (bl 33 262143) rfl rfl (by kernel_rfl) (fun _ _ _ h => h) (Or.inl ⟨by rfl, ?_⟩) ?_ ?_
  rotate_left
  · intro w'; go_simp; with_reducible rfl
  rotate_left
  · simp only [Act.put, zA, zB, zC, i64_w, i32_w]; rfl
  refine pure_ (i := 18) (N := some 38) (v := ?_) (a' := ?_) (bl 33 524287) rfl rfl (by kernel_rfl) (fun _ _ _ h => h) (Or.inl ⟨by rfl, ?_⟩) ?_ ?_
  rotate_left
  · intro w'; go_simp; with_reducible rfl
  rotate_left
  · simp only [Act.put, zA, zB, zC, i64_w, i32_w]; rfl
  refine pure_ (i := 20) (N := some 40) (v := ?_) (a' := ?_) (bl 33 1572863) rfl rfl (by kernel_rfl) (fun _ _ _ h => h) (Or.inl ⟨by rfl, ?_⟩) ?_ ?_
  rotate_left
  · intro w'; go_simp; with_reducible rfl
  rotate_left
  · simp only [Act.put, zA, zB, zC, i64_w, i32_w]; rfl
  refine take_ (i := 19) (N := some 39) (v := ?_) (a' := ?_) (bl 33 2097151) rfl rfl (by kernel_rfl) (fun _ _ _ h => h) (Or.inl ⟨by rfl, ?_⟩) hHeld ?_ ?_
  rotate_left
  · rintro w' ⟨s0, s1, s2, s3, s4, s5⟩; go_simp; with_reducible rfl
  rotate_left
  · simp only [Act.put, zA, zB, zC, i64_w, i32_w]; rfl
  refine take_ (i := 21) (N := some 41) (v := ?_) (a' := ?_) (bl 33 4194303) rfl rfl (by kernel_rfl) (fun _ _ _ h => h) (Or.inl ⟨by rfl, ?_⟩) hHeld ?_ ?_
  rotate_left
  · rintro w' ⟨s0, s1, s2, s3, s4, s5⟩; go_simp; with_reducible rfl
  rotate_left
  · simp only [Act.put, zA, zB, zC, i64_w, i32_w]; rfl
  refine pure_ (i := 22) (N := some 42) (v := ?_) (a' := ?_) (bl 33 8388607) rfl rfl (by kernel_rfl) (fun _ _ _ h => h) (Or.inl ⟨by rfl, ?_⟩) ?_ ?_
  rotate_left
  · intro w'; go_simp; with_reducible rfl
  rotate_left
  · simp only [Act.put, zA, zB, zC, i64_w, i32_w]; rfl
  refine pure_ (i := 23) (N := some 43) (v := ?_) (a' := ?_) (bl 33 16777215) rfl rfl (by kernel_rfl) (fun _ _ _ h => h) (Or.inl ⟨by rfl, ?_⟩) ?_ ?_
  rotate_left
  · intro w'; go_simp; with_reducible rfl
  rotate_left
  · simp only [Act.put, zA, zB, zC, i64_w, i32_w]; rfl
  refine pure_ (i := 24) (N := some 44) (v := ?_) (a' := ?_) (bl 33 33554431) rfl rfl (by kernel_rfl) (fun _ _ _ h => h) (Or.inl ⟨by rfl, ?_⟩) ?_ ?_
  rotate_left
  · intro w'; go_simp; with_reducible rfl
  rotate_left
  · simp only [Act.put, zA, zB, zC, i64_w, i32_w]; rfl
  refine take_ (i := 25) (N := some 45) (v := ?_) (a' := ?_) (bl 33 67108863) rfl rfl (by kernel_rfl) (fun _ _ _ h => h) (Or.inl ⟨by rfl, ?_⟩) hHeld ?_ ?_
  rotate_left
  · rintro w' ⟨s0, s1, s2, s3, s4, s5⟩; go_simp; with_reducible rfl
  rotate_left
  · simp only [Act.put, zA, zB, zC, i64_w, i32_w]; rfl
  refine one_ (i := 26) (N := some 46) (bl 33 134217727) rfl rfl (by kernel_rfl) (by decide) (fun K hK => ?_)
  refine goes_ Try.func42 (by kernel_rfl) rfl #[] (by rfl) rfl rfl (by (try simp only [List.map_toArray, List.map_cons, List.map_nil]); first | done | rfl) ?_
  with_reducible refine (full_c _).mono ?_
  rintro e wv4 ⟨rfl, hb⟩; refine ⟨_, rfl, ?_⟩
  replace HB := Aside0.mk (HB.out.step hb); clear hb
  refine hK.out _ _ ⟨HB.out.c0 0 rfl, HB.out.c1 0 rfl, HB.out.c0 1 rfl, HB.out.c1 1 rfl, HB.out.c0 2 rfl, HB.out.c1 2 rfl⟩ (fun hHeld => ?_)
  clear hK K
  refine norm_ (a' := ?_) ?_ ?_; rotate_left
  · show Act.put _ (some 46) _ = _; simp only [Act.put, zA, zB, zC, i64_w, i32_w]; rfl
  refine pure_ (i := 27) (N := some 47) (v := ?_) (a' := ?_) (bl 33 268435455) rfl rfl (by kernel_rfl) (fun _ _ _ h => h) (Or.inl ⟨by rfl, ?_⟩) ?_ ?_
  rotate_left
  · intro w'; go_simp; with_reducible rfl
  rotate_left
  · simp only [Act.put, zA, zB, zC, i64_w, i32_w]; rfl
  refine pure_ (i := 28) (N := some 48) (v := ?_) (a' := ?_) (bl 33 536870911) rfl rfl (by kernel_rfl) (fun _ _ _ h => h) (Or.inl ⟨by rfl, ?_⟩) ?_ ?_
  rotate_left
  · intro w'; go_simp; with_reducible rfl
  rotate_left
  · simp only [Act.put, zA, zB, zC, i64_w, i32_w]; rfl
  refine pure_ (i := 29) (N := some 49) (v := ?_) (a' := ?_) (bl 33 1073741823) rfl rfl (by kernel_rfl) (fun _ _ _ h => h) (Or.inl ⟨by rfl, ?_⟩) ?_ ?_
  rotate_left
  · intro w'; go_simp; with_reducible rfl
  rotate_left
  · simp only [Act.put, zA, zB, zC, i64_w, i32_w]; rfl
  refine pure_ (i := 30) (N := some 50) (v := undef) (a' := ?_) (bl 33 2147483647) rfl rfl (by kernel_rfl) (fun _ _ _ h => h) (Or.inr ⟨by rfl, rfl⟩) ?_ ?_
  rotate_left
  · simp only [Act.put, zA, zB, zC, i64_w, i32_w]; rfl
  refine pure_ (i := 31) (N := some 51) (v := undef) (a' := ?_) (bl 33 4294967295) rfl rfl (by kernel_rfl) (fun _ _ _ h => h) (Or.inr ⟨by rfl, rfl⟩) ?_ ?_
  rotate_left
  · simp only [Act.put, zA, zB, zC, i64_w, i32_w]; rfl
  refine pure_ (i := 32) (N := some 52) (v := ?_) (a' := ?_) (bl 33 8589934591) rfl rfl (by kernel_rfl) (fun _ _ _ h => h) (Or.inl ⟨by rfl, ?_⟩) ?_ ?_
  rotate_left
  · intro w'; go_simp; with_reducible rfl
  rotate_left
  · simp only [Act.put, zA, zB, zC, i64_w, i32_w]; rfl
  refine done_ (by kernel_rfl) ?_
  have C := HB.out.cl
  simp only [Cl, and_true] at C
  obtain ⟨_, _, _, _, _, _, _, _, _, _, _, _⟩ := C
  go_wp2_with fail
  (with_reducible refine (awake_c _).mono ?_); rintro e wv5 ⟨rfl, hb⟩
  replace HB := Aside0.mk (HB.out.step hb)
  clear hb
  have C := HB.out.cl
  simp only [Cl, and_true] at C
  obtain ⟨_, _, _, _, _, _, _, _, _, _, _, _⟩ := C
  go_wp2_with fail
  go_ret
  exact ⟨by first | rfl | (simp; done) | (simp [*]; done), HB.out.below⟩

set_option maxHeartbeats 4000000 in
set_option maxRecDepth 100000 in
theorem early5 (op a1 b1 a2 b2 z1 z2 : Int) (i_a1 : Aside0 (I32 a1)) (i_b1 : Aside0 (I32 b1)) (i_a2 : Aside0 (I32 a2)) (i_b2 : Aside0 (I32 b2)) (hz : Aside0 (iv op a1 b1 a2 b2 = (z1, z2))) (d1 : decide (op < 6) = false) (d2 : decide (9 < op) = false) (d3 : decide (b1 < a1) = false) (d4 : decide (b2 < a2) = false) (hnf : ((z1 == -2147483648) && (z2 == 2147483647)) = false) (hE : Aside0 (decide (z2 < z1) = true)) (w : World) : Calls Try.prog 15 #[.int .u8 op, .agg #[.int .i32 a1, .int .i32 b1], .agg #[.int .i32 a2, .int .i32 b2]] w fun e w' => e = .returned (.bool true) ∧ Below w.heap.size w w' := by
  have hu38 := Try.underlying38
  go_enter Try.func15, Try.ntmps15
  go_upto_region 1 with (fail)
  have HB := Aside0.mk (Bx.start2 w a1 b1 a2 b2)
  generalize World.alloc (World.alloc w _) _ = w0 at HB ⊢
  have C := HB.out.cl
  simp only [Cl, and_true] at C
  obtain ⟨_, _, _, _, _, _, _, _⟩ := C
  go_wp2_with fail
  (with_reducible refine (apply_c _ _ _ _ _ _ _ i_a1.out i_b1.out i_a2.out i_b2.out hz.out _).mono ?_); rintro e wv1 ⟨rfl, hb⟩
  replace HB := Aside0.mk (HB.out.step hb)
  clear hb
  have C := HB.out.cl
  simp only [Cl, and_true] at C
  obtain ⟨_, _, _, _, _, _, _, _⟩ := C
  go_upto_region 2 with (fail)
  have hl7 := blk_lt (HB.out.bk 1 rfl)
  replace HB := Aside0.mk (show Bx w [(w.heap.size, a1, b1), (w.heap.size + 1, a2, b2), (wv1.heap.size, z1, z2)] _ from HB.out.box rfl z1 z2)
  generalize World.alloc wv1 _ = wz at HB ⊢
  generalize wv1.heap.size = g7 at HB hl7 ⊢
  have C := HB.out.cl
  simp only [Cl, and_true] at C
  obtain ⟨_, _, _, _, _, _, _, _, _, _, _, _⟩ := C
  replace HB := Aside0.mk (HB.out.drew)
  refine start_ (n := 33) (S := fun w' => w'.cell? ⟨w.heap.size, 0, none⟩ = some (.int .i32 a1) ∧ w'.cell? ⟨w.heap.size, 1, none⟩ = some (.int .i32 b1) ∧ w'.cell? ⟨w.heap.size + 1, 0, none⟩ = some (.int .i32 a2) ∧ w'.cell? ⟨w.heap.size + 1, 1, none⟩ = some (.int .i32 b2) ∧ w'.cell? ⟨g7, 0, none⟩ = some (.int .i32 z1) ∧ w'.cell? ⟨g7, 1, none⟩ = some (.int .i32 z2)) (ds := []) #[false, false, false, false, false, false, false, false, false, false, false, false, false, false, false, false, false, false, false, false, false, false, false, false, false, false, false, false, false, false, false, false, false] (by kernel_rfl) rfl rfl ⟨HB.out.c0 0 rfl, HB.out.c1 0 rfl, HB.out.c0 1 rfl, HB.out.c1 1 rfl, HB.out.c0 2 rfl, HB.out.c1 2 rfl⟩ (fun hHeld => ?_)
  generalize wz.drew = wv2 at HB hHeld ⊢
  refine one_ (i := 0) (N := some 20) (bl 33 1) rfl rfl (by kernel_rfl) (by decide) (fun K hK => ?_)
  refine goes_ Try.func28 (by kernel_rfl) rfl #[] (by rfl) rfl rfl (by (try simp only [List.map_toArray, List.map_cons, List.map_nil]); first | done | rfl) ?_
  with_reducible refine (awake_c _).mono ?_
  rintro e wv3 ⟨rfl, hb⟩; refine ⟨_, rfl, ?_⟩
  replace HB := Aside0.mk (HB.out.step hb); clear hb
  refine hK.out _ _ ⟨HB.out.c0 0 rfl, HB.out.c1 0 rfl, HB.out.c0 1 rfl, HB.out.c1 1 rfl, HB.out.c0 2 rfl, HB.out.c1 2 rfl⟩ (fun hHeld => ?_)
  clear hK K
  refine norm_ (a' := ?_) ?_ ?_; rotate_left
  · show Act.put _ (some 20) _ = _; simp only [Act.put, zA, zB, zC, i64_w, i32_w]; rfl
  refine pure_ (i := 1) (N := some 21) (v := ?_) (a' := ?_) (bl 33 3) rfl rfl (by kernel_rfl) (fun _ _ _ h => h) (Or.inl ⟨by rfl, ?_⟩) ?_ ?_
  rotate_left
  · intro w'; go_simp; with_reducible rfl
  rotate_left
  · simp only [Act.put, zA, zB, zC, i64_w, i32_w]; rfl
  refine pure_ (i := 2) (N := some 22) (v := ?_) (a' := ?_) (bl 33 7) rfl rfl (by kernel_rfl) (fun _ _ _ h => h) (Or.inl ⟨by rfl, ?_⟩) ?_ ?_
  rotate_left
  · intro w'; go_simp; with_reducible rfl
  rotate_left
  · simp only [Act.put, zA, zB, zC, i64_w, i32_w]; rfl
  refine pure_ (i := 3) (N := some 23) (v := ?_) (a' := ?_) (bl 33 15) rfl rfl (by kernel_rfl) (fun _ _ _ h => h) (Or.inl ⟨by rfl, ?_⟩) ?_ ?_
  rotate_left
  · intro w'; go_simp; with_reducible rfl
  rotate_left
  · simp only [Act.put, zA, zB, zC, i64_w, i32_w]; rfl
  refine pure_ (i := 4) (N := some 24) (v := ?_) (a' := ?_) (bl 33 31) rfl rfl (by kernel_rfl) (fun _ _ _ h => h) (Or.inl ⟨by rfl, ?_⟩) ?_ ?_
  rotate_left
  · intro w'; go_simp; with_reducible rfl
  rotate_left
  · simp only [Act.put, zA, zB, zC, i64_w, i32_w]; rfl
  refine pure_ (i := 5) (N := some 25) (v := ?_) (a' := ?_) (bl 33 63) rfl rfl (by kernel_rfl) (fun _ _ _ h => h) (Or.inl ⟨by rfl, ?_⟩) ?_ ?_
  rotate_left
  · intro w'; go_simp; with_reducible rfl
  rotate_left
  · simp only [Act.put, zA, zB, zC, i64_w, i32_w]; rfl
  refine pure_ (i := 6) (N := some 26) (v := ?_) (a' := ?_) (bl 33 127) rfl rfl (by kernel_rfl) (fun _ _ _ h => h) (Or.inl ⟨by rfl, ?_⟩) ?_ ?_
  rotate_left
  · intro w'; go_simp; with_reducible rfl
  rotate_left
  · simp only [Act.put, zA, zB, zC, i64_w, i32_w]; rfl
  refine pure_ (i := 7) (N := some 27) (v := ?_) (a' := ?_) (bl 33 255) rfl rfl (by kernel_rfl) (fun _ _ _ h => h) (Or.inl ⟨by rfl, ?_⟩) ?_ ?_
  rotate_left
  · intro w'; go_simp; with_reducible rfl
  rotate_left
  · simp only [Act.put, zA, zB, zC, i64_w, i32_w]; rfl
  refine pure_ (i := 8) (N := some 28) (v := ?_) (a' := ?_) (bl 33 511) rfl rfl (by kernel_rfl) (fun _ _ _ h => h) (Or.inl ⟨by rfl, ?_⟩) ?_ ?_
  rotate_left
  · intro w'; go_simp; with_reducible rfl
  rotate_left
  · simp only [Act.put, zA, zB, zC, i64_w, i32_w]; rfl
  refine pure_ (i := 9) (N := some 29) (v := ?_) (a' := ?_) (bl 33 1023) rfl rfl (by kernel_rfl) (fun _ _ _ h => h) (Or.inl ⟨by rfl, ?_⟩) ?_ ?_
  rotate_left
  · intro w'; go_simp; with_reducible rfl
  rotate_left
  · simp only [Act.put, zA, zB, zC, i64_w, i32_w]; rfl
  refine pure_ (i := 10) (N := some 30) (v := ?_) (a' := ?_) (bl 33 2047) rfl rfl (by kernel_rfl) (fun _ _ _ h => h) (Or.inl ⟨by rfl, ?_⟩) ?_ ?_
  rotate_left
  · intro w'; go_simp; with_reducible rfl
  rotate_left
  · simp only [Act.put, zA, zB, zC, i64_w, i32_w]; rfl
  refine pure_ (i := 11) (N := some 31) (v := ?_) (a' := ?_) (bl 33 4095) rfl rfl (by kernel_rfl) (fun _ _ _ h => h) (Or.inl ⟨by rfl, ?_⟩) ?_ ?_
  rotate_left
  · intro w'; go_simp; with_reducible rfl
  rotate_left
  · simp only [Act.put, zA, zB, zC, i64_w, i32_w]; rfl
  refine pure_ (i := 13) (N := some 33) (v := ?_) (a' := ?_) (bl 33 12287) rfl rfl (by kernel_rfl) (fun _ _ _ h => h) (Or.inl ⟨by rfl, ?_⟩) ?_ ?_
  rotate_left
  · intro w'; go_simp; with_reducible rfl
  rotate_left
  · simp only [Act.put, zA, zB, zC, i64_w, i32_w]; rfl
  refine take_ (i := 12) (N := some 32) (v := ?_) (a' := ?_) (bl 33 16383) rfl rfl (by kernel_rfl) (fun _ _ _ h => h) (Or.inl ⟨by rfl, ?_⟩) hHeld ?_ ?_
  rotate_left
  · rintro w' ⟨s0, s1, s2, s3, s4, s5⟩; go_simp; with_reducible rfl
  rotate_left
  · simp only [Act.put, zA, zB, zC, i64_w, i32_w]; rfl
  refine take_ (i := 14) (N := some 34) (v := ?_) (a' := ?_) (bl 33 32767) rfl rfl (by kernel_rfl) (fun _ _ _ h => h) (Or.inl ⟨by rfl, ?_⟩) hHeld ?_ ?_
  rotate_left
  · rintro w' ⟨s0, s1, s2, s3, s4, s5⟩; go_simp; with_reducible rfl
  rotate_left
  · simp only [Act.put, zA, zB, zC, i64_w, i32_w]; rfl
  refine pure_ (i := 15) (N := some 35) (v := ?_) (a' := ?_) (bl 33 65535) rfl rfl (by kernel_rfl) (fun _ _ _ h => h) (Or.inl ⟨by rfl, ?_⟩) ?_ ?_
  rotate_left
  · intro w'; go_simp; with_reducible rfl
  rotate_left
  · simp only [Act.put, zA, zB, zC, i64_w, i32_w]; rfl
  refine pure_ (i := 16) (N := some 36) (v := ?_) (a' := ?_) (bl 33 131071) rfl rfl (by kernel_rfl) (fun _ _ _ h => h) (Or.inl ⟨by rfl, ?_⟩) ?_ ?_
  rotate_left
  · intro w'; go_simp; with_reducible rfl
  rotate_left
  · simp only [Act.put, zA, zB, zC, i64_w, i32_w]; rfl
  refine pure_ (i := 17) (N := some 37) (v := ?_) (a' := ?_) (bl 33 262143) rfl rfl (by kernel_rfl) (fun _ _ _ h => h) (Or.inl ⟨by rfl, ?_⟩) ?_ ?_
  rotate_left
  · intro w'; go_simp; with_reducible rfl
  rotate_left
  · simp only [Act.put, zA, zB, zC, i64_w, i32_w]; rfl
  refine pure_ (i := 18) (N := some 38) (v := ?_) (a' := ?_) (bl 33 524287) rfl rfl (by kernel_rfl) (fun _ _ _ h => h) (Or.inl ⟨by rfl, ?_⟩) ?_ ?_
  rotate_left
  · intro w'; go_simp; with_reducible rfl
  rotate_left
  · simp only [Act.put, zA, zB, zC, i64_w, i32_w]; rfl
  refine pure_ (i := 20) (N := some 40) (v := ?_) (a' := ?_) (bl 33 1572863) rfl rfl (by kernel_rfl) (fun _ _ _ h => h) (Or.inl ⟨by rfl, ?_⟩) ?_ ?_
  rotate_left
  · intro w'; go_simp; with_reducible rfl
  rotate_left
  · simp only [Act.put, zA, zB, zC, i64_w, i32_w]; rfl
  refine take_ (i := 19) (N := some 39) (v := ?_) (a' := ?_) (bl 33 2097151) rfl rfl (by kernel_rfl) (fun _ _ _ h => h) (Or.inl ⟨by rfl, ?_⟩) hHeld ?_ ?_
  rotate_left
  · rintro w' ⟨s0, s1, s2, s3, s4, s5⟩; go_simp; with_reducible rfl
  rotate_left
  · simp only [Act.put, zA, zB, zC, i64_w, i32_w]; rfl
  refine take_ (i := 21) (N := some 41) (v := ?_) (a' := ?_) (bl 33 4194303) rfl rfl (by kernel_rfl) (fun _ _ _ h => h) (Or.inl ⟨by rfl, ?_⟩) hHeld ?_ ?_
  rotate_left
  · rintro w' ⟨s0, s1, s2, s3, s4, s5⟩; go_simp; with_reducible rfl
  rotate_left
  · simp only [Act.put, zA, zB, zC, i64_w, i32_w]; rfl
  refine pure_ (i := 22) (N := some 42) (v := ?_) (a' := ?_) (bl 33 8388607) rfl rfl (by kernel_rfl) (fun _ _ _ h => h) (Or.inl ⟨by rfl, ?_⟩) ?_ ?_
  rotate_left
  · intro w'; go_simp; with_reducible rfl
  rotate_left
  · simp only [Act.put, zA, zB, zC, i64_w, i32_w]; rfl
  refine pure_ (i := 23) (N := some 43) (v := ?_) (a' := ?_) (bl 33 16777215) rfl rfl (by kernel_rfl) (fun _ _ _ h => h) (Or.inl ⟨by rfl, ?_⟩) ?_ ?_
  rotate_left
  · intro w'; go_simp; with_reducible rfl
  rotate_left
  · simp only [Act.put, zA, zB, zC, i64_w, i32_w]; rfl
  refine pure_ (i := 24) (N := some 44) (v := ?_) (a' := ?_) (bl 33 33554431) rfl rfl (by kernel_rfl) (fun _ _ _ h => h) (Or.inl ⟨by rfl, ?_⟩) ?_ ?_
  rotate_left
  · intro w'; go_simp; with_reducible rfl
  rotate_left
  · simp only [Act.put, zA, zB, zC, i64_w, i32_w]; rfl
  refine take_ (i := 25) (N := some 45) (v := ?_) (a' := ?_) (bl 33 67108863) rfl rfl (by kernel_rfl) (fun _ _ _ h => h) (Or.inl ⟨by rfl, ?_⟩) hHeld ?_ ?_
  rotate_left
  · rintro w' ⟨s0, s1, s2, s3, s4, s5⟩; go_simp; with_reducible rfl
  rotate_left
  · simp only [Act.put, zA, zB, zC, i64_w, i32_w]; rfl
  refine one_ (i := 26) (N := some 46) (bl 33 134217727) rfl rfl (by kernel_rfl) (by decide) (fun K hK => ?_)
  refine goes_ Try.func42 (by kernel_rfl) rfl #[] (by rfl) rfl rfl (by (try simp only [List.map_toArray, List.map_cons, List.map_nil]); first | done | rfl) ?_
  with_reducible refine (full_c _).mono ?_
  rintro e wv4 ⟨rfl, hb⟩; refine ⟨_, rfl, ?_⟩
  replace HB := Aside0.mk (HB.out.step hb); clear hb
  refine hK.out _ _ ⟨HB.out.c0 0 rfl, HB.out.c1 0 rfl, HB.out.c0 1 rfl, HB.out.c1 1 rfl, HB.out.c0 2 rfl, HB.out.c1 2 rfl⟩ (fun hHeld => ?_)
  clear hK K
  refine norm_ (a' := ?_) ?_ ?_; rotate_left
  · show Act.put _ (some 46) _ = _; simp only [Act.put, zA, zB, zC, i64_w, i32_w]; rfl
  refine pure_ (i := 27) (N := some 47) (v := ?_) (a' := ?_) (bl 33 268435455) rfl rfl (by kernel_rfl) (fun _ _ _ h => h) (Or.inl ⟨by rfl, ?_⟩) ?_ ?_
  rotate_left
  · intro w'; go_simp; with_reducible rfl
  rotate_left
  · simp only [Act.put, zA, zB, zC, i64_w, i32_w]; rfl
  refine pure_ (i := 28) (N := some 48) (v := ?_) (a' := ?_) (bl 33 536870911) rfl rfl (by kernel_rfl) (fun _ _ _ h => h) (Or.inl ⟨by rfl, ?_⟩) ?_ ?_
  rotate_left
  · intro w'; go_simp; with_reducible rfl
  rotate_left
  · simp only [Act.put, zA, zB, zC, i64_w, i32_w]; rfl
  refine pure_ (i := 29) (N := some 49) (v := ?_) (a' := ?_) (bl 33 1073741823) rfl rfl (by kernel_rfl) (fun _ _ _ h => h) (Or.inl ⟨by rfl, ?_⟩) ?_ ?_
  rotate_left
  · intro w'; go_simp; with_reducible rfl
  rotate_left
  · simp only [Act.put, zA, zB, zC, i64_w, i32_w]; rfl
  refine take_ (i := 30) (N := some 50) (v := ?_) (a' := ?_) (bl 33 2147483647) rfl rfl (by kernel_rfl) (fun _ _ _ h => h) (Or.inl ⟨by rfl, ?_⟩) hHeld ?_ ?_
  rotate_left
  · rintro w' ⟨s0, s1, s2, s3, s4, s5⟩; go_simp; with_reducible rfl
  rotate_left
  · simp only [Act.put, zA, zB, zC, i64_w, i32_w]; rfl
  refine one_ (i := 31) (N := some 51) (bl 33 4294967295) rfl rfl (by kernel_rfl) (by decide) (fun K hK => ?_)
  refine goes_ Try.func32 (by kernel_rfl) rfl #[.agg #[.int .i32 z1, .int .i32 z2]] (by rfl) rfl rfl (by (try simp only [List.map_toArray, List.map_cons, List.map_nil]); first | done | rfl) ?_
  with_reducible refine (isE_c _ _ _ hE.out _).mono ?_
  rintro e wv5 ⟨rfl, hb⟩; refine ⟨_, rfl, ?_⟩
  replace HB := Aside0.mk (HB.out.step hb); clear hb
  refine hK.out _ _ ⟨HB.out.c0 0 rfl, HB.out.c1 0 rfl, HB.out.c0 1 rfl, HB.out.c1 1 rfl, HB.out.c0 2 rfl, HB.out.c1 2 rfl⟩ (fun hHeld => ?_)
  clear hK K
  refine norm_ (a' := ?_) ?_ ?_; rotate_left
  · show Act.put _ (some 51) _ = _; simp only [Act.put, zA, zB, zC, i64_w, i32_w]; rfl
  refine pure_ (i := 32) (N := some 52) (v := ?_) (a' := ?_) (bl 33 8589934591) rfl rfl (by kernel_rfl) (fun _ _ _ h => h) (Or.inl ⟨by rfl, ?_⟩) ?_ ?_
  rotate_left
  · intro w'; go_simp; with_reducible rfl
  rotate_left
  · simp only [Act.put, zA, zB, zC, i64_w, i32_w]; rfl
  refine done_ (by kernel_rfl) ?_
  have C := HB.out.cl
  simp only [Cl, and_true] at C
  obtain ⟨_, _, _, _, _, _, _, _, _, _, _, _⟩ := C
  go_wp2_with fail
  (with_reducible refine (awake_c _).mono ?_); rintro e wv6 ⟨rfl, hb⟩
  replace HB := Aside0.mk (HB.out.step hb)
  clear hb
  have C := HB.out.cl
  simp only [Cl, and_true] at C
  obtain ⟨_, _, _, _, _, _, _, _, _, _, _, _⟩ := C
  go_wp2_with fail
  go_ret
  exact ⟨by first | rfl | (simp; done) | (simp [*]; done), HB.out.below⟩

set_option maxHeartbeats 4000000 in
set_option maxRecDepth 100000 in
theorem main (op a1 b1 a2 b2 z1 z2 : Int) (i_a1 : Aside0 (I32 a1)) (i_b1 : Aside0 (I32 b1)) (i_a2 : Aside0 (I32 a2)) (i_b2 : Aside0 (I32 b2)) (hz : Aside0 (iv op a1 b1 a2 b2 = (z1, z2))) (d1 : decide (op < 6) = false) (d2 : decide (9 < op) = false) (d3 : decide (b1 < a1) = false) (d4 : decide (b2 < a2) = false) (hnf : ((z1 == -2147483648) && (z2 == 2147483647)) = false) (hE : Aside0 (decide (z2 < z1) = false)) (i0 j0 i1 j1 : Nat) (hi0 : Aside0 (i0 < 2)) (hj0 : Aside0 (j0 < 4)) (hi1 : Aside0 (i1 < 2)) (hj1 : Aside0 (j1 < 4)) (hlo : Aside0 (wv op (xs a1 b1 i0) (ys a2 b2 j0) = (z1, 0))) (hhi : Aside0 (wv op (xs a1 b1 i1) (ys a2 b2 j1) = (z2, 0))) (w : World) : Calls Try.prog 15 #[.int .u8 op, .agg #[.int .i32 a1, .int .i32 b1], .agg #[.int .i32 a2, .int .i32 b2]] w fun e w' => e = .returned (.bool true) ∧ Below w.heap.size w w' := by
  have hu38 := Try.underlying38
  go_enter Try.func15, Try.ntmps15
  go_upto_region 1 with (fail)
  have HB := Aside0.mk (Bx.start2 w a1 b1 a2 b2)
  generalize World.alloc (World.alloc w _) _ = w0 at HB ⊢
  have C := HB.out.cl
  simp only [Cl, and_true] at C
  obtain ⟨_, _, _, _, _, _, _, _⟩ := C
  go_wp2_with fail
  (with_reducible refine (apply_c _ _ _ _ _ _ _ i_a1.out i_b1.out i_a2.out i_b2.out hz.out _).mono ?_); rintro e wv1 ⟨rfl, hb⟩
  replace HB := Aside0.mk (HB.out.step hb)
  clear hb
  have C := HB.out.cl
  simp only [Cl, and_true] at C
  obtain ⟨_, _, _, _, _, _, _, _⟩ := C
  go_upto_region 2 with (fail)
  have hl7 := blk_lt (HB.out.bk 1 rfl)
  replace HB := Aside0.mk (show Bx w [(w.heap.size, a1, b1), (w.heap.size + 1, a2, b2), (wv1.heap.size, z1, z2)] _ from HB.out.box rfl z1 z2)
  generalize World.alloc wv1 _ = wz at HB ⊢
  generalize wv1.heap.size = g7 at HB hl7 ⊢
  have C := HB.out.cl
  simp only [Cl, and_true] at C
  obtain ⟨_, _, _, _, _, _, _, _, _, _, _, _⟩ := C
  replace HB := Aside0.mk (HB.out.drew)
  refine start_ (n := 33) (S := fun w' => w'.cell? ⟨w.heap.size, 0, none⟩ = some (.int .i32 a1) ∧ w'.cell? ⟨w.heap.size, 1, none⟩ = some (.int .i32 b1) ∧ w'.cell? ⟨w.heap.size + 1, 0, none⟩ = some (.int .i32 a2) ∧ w'.cell? ⟨w.heap.size + 1, 1, none⟩ = some (.int .i32 b2) ∧ w'.cell? ⟨g7, 0, none⟩ = some (.int .i32 z1) ∧ w'.cell? ⟨g7, 1, none⟩ = some (.int .i32 z2)) (ds := []) #[false, false, false, false, false, false, false, false, false, false, false, false, false, false, false, false, false, false, false, false, false, false, false, false, false, false, false, false, false, false, false, false, false] (by kernel_rfl) rfl rfl ⟨HB.out.c0 0 rfl, HB.out.c1 0 rfl, HB.out.c0 1 rfl, HB.out.c1 1 rfl, HB.out.c0 2 rfl, HB.out.c1 2 rfl⟩ (fun hHeld => ?_)
  generalize wz.drew = wv2 at HB hHeld ⊢
  refine one_ (i := 0) (N := some 20) (bl 33 1) rfl rfl (by kernel_rfl) (by decide) (fun K hK => ?_)
  refine goes_ Try.func28 (by kernel_rfl) rfl #[] (by rfl) rfl rfl (by (try simp only [List.map_toArray, List.map_cons, List.map_nil]); first | done | rfl) ?_
  with_reducible refine (awake_c _).mono ?_
  rintro e wv3 ⟨rfl, hb⟩; refine ⟨_, rfl, ?_⟩
  replace HB := Aside0.mk (HB.out.step hb); clear hb
  refine hK.out _ _ ⟨HB.out.c0 0 rfl, HB.out.c1 0 rfl, HB.out.c0 1 rfl, HB.out.c1 1 rfl, HB.out.c0 2 rfl, HB.out.c1 2 rfl⟩ (fun hHeld => ?_)
  clear hK K
  refine norm_ (a' := ?_) ?_ ?_; rotate_left
  · show Act.put _ (some 20) _ = _; simp only [Act.put, zA, zB, zC, i64_w, i32_w]; rfl
  refine pure_ (i := 1) (N := some 21) (v := ?_) (a' := ?_) (bl 33 3) rfl rfl (by kernel_rfl) (fun _ _ _ h => h) (Or.inl ⟨by rfl, ?_⟩) ?_ ?_
  rotate_left
  · intro w'; go_simp; with_reducible rfl
  rotate_left
  · simp only [Act.put, zA, zB, zC, i64_w, i32_w]; rfl
  refine pure_ (i := 2) (N := some 22) (v := ?_) (a' := ?_) (bl 33 7) rfl rfl (by kernel_rfl) (fun _ _ _ h => h) (Or.inl ⟨by rfl, ?_⟩) ?_ ?_
  rotate_left
  · intro w'; go_simp; with_reducible rfl
  rotate_left
  · simp only [Act.put, zA, zB, zC, i64_w, i32_w]; rfl
  refine pure_ (i := 3) (N := some 23) (v := ?_) (a' := ?_) (bl 33 15) rfl rfl (by kernel_rfl) (fun _ _ _ h => h) (Or.inl ⟨by rfl, ?_⟩) ?_ ?_
  rotate_left
  · intro w'; go_simp; with_reducible rfl
  rotate_left
  · simp only [Act.put, zA, zB, zC, i64_w, i32_w]; rfl
  refine pure_ (i := 4) (N := some 24) (v := ?_) (a' := ?_) (bl 33 31) rfl rfl (by kernel_rfl) (fun _ _ _ h => h) (Or.inl ⟨by rfl, ?_⟩) ?_ ?_
  rotate_left
  · intro w'; go_simp; with_reducible rfl
  rotate_left
  · simp only [Act.put, zA, zB, zC, i64_w, i32_w]; rfl
  refine pure_ (i := 5) (N := some 25) (v := ?_) (a' := ?_) (bl 33 63) rfl rfl (by kernel_rfl) (fun _ _ _ h => h) (Or.inl ⟨by rfl, ?_⟩) ?_ ?_
  rotate_left
  · intro w'; go_simp; with_reducible rfl
  rotate_left
  · simp only [Act.put, zA, zB, zC, i64_w, i32_w]; rfl
  refine pure_ (i := 6) (N := some 26) (v := ?_) (a' := ?_) (bl 33 127) rfl rfl (by kernel_rfl) (fun _ _ _ h => h) (Or.inl ⟨by rfl, ?_⟩) ?_ ?_
  rotate_left
  · intro w'; go_simp; with_reducible rfl
  rotate_left
  · simp only [Act.put, zA, zB, zC, i64_w, i32_w]; rfl
  refine pure_ (i := 7) (N := some 27) (v := ?_) (a' := ?_) (bl 33 255) rfl rfl (by kernel_rfl) (fun _ _ _ h => h) (Or.inl ⟨by rfl, ?_⟩) ?_ ?_
  rotate_left
  · intro w'; go_simp; with_reducible rfl
  rotate_left
  · simp only [Act.put, zA, zB, zC, i64_w, i32_w]; rfl
  refine pure_ (i := 8) (N := some 28) (v := ?_) (a' := ?_) (bl 33 511) rfl rfl (by kernel_rfl) (fun _ _ _ h => h) (Or.inl ⟨by rfl, ?_⟩) ?_ ?_
  rotate_left
  · intro w'; go_simp; with_reducible rfl
  rotate_left
  · simp only [Act.put, zA, zB, zC, i64_w, i32_w]; rfl
  refine pure_ (i := 9) (N := some 29) (v := ?_) (a' := ?_) (bl 33 1023) rfl rfl (by kernel_rfl) (fun _ _ _ h => h) (Or.inl ⟨by rfl, ?_⟩) ?_ ?_
  rotate_left
  · intro w'; go_simp; with_reducible rfl
  rotate_left
  · simp only [Act.put, zA, zB, zC, i64_w, i32_w]; rfl
  refine pure_ (i := 10) (N := some 30) (v := ?_) (a' := ?_) (bl 33 2047) rfl rfl (by kernel_rfl) (fun _ _ _ h => h) (Or.inl ⟨by rfl, ?_⟩) ?_ ?_
  rotate_left
  · intro w'; go_simp; with_reducible rfl
  rotate_left
  · simp only [Act.put, zA, zB, zC, i64_w, i32_w]; rfl
  refine pure_ (i := 11) (N := some 31) (v := ?_) (a' := ?_) (bl 33 4095) rfl rfl (by kernel_rfl) (fun _ _ _ h => h) (Or.inl ⟨by rfl, ?_⟩) ?_ ?_
  rotate_left
  · intro w'; go_simp; with_reducible rfl
  rotate_left
  · simp only [Act.put, zA, zB, zC, i64_w, i32_w]; rfl
  refine pure_ (i := 13) (N := some 33) (v := ?_) (a' := ?_) (bl 33 12287) rfl rfl (by kernel_rfl) (fun _ _ _ h => h) (Or.inl ⟨by rfl, ?_⟩) ?_ ?_
  rotate_left
  · intro w'; go_simp; with_reducible rfl
  rotate_left
  · simp only [Act.put, zA, zB, zC, i64_w, i32_w]; rfl
  refine take_ (i := 12) (N := some 32) (v := ?_) (a' := ?_) (bl 33 16383) rfl rfl (by kernel_rfl) (fun _ _ _ h => h) (Or.inl ⟨by rfl, ?_⟩) hHeld ?_ ?_
  rotate_left
  · rintro w' ⟨s0, s1, s2, s3, s4, s5⟩; go_simp; with_reducible rfl
  rotate_left
  · simp only [Act.put, zA, zB, zC, i64_w, i32_w]; rfl
  refine take_ (i := 14) (N := some 34) (v := ?_) (a' := ?_) (bl 33 32767) rfl rfl (by kernel_rfl) (fun _ _ _ h => h) (Or.inl ⟨by rfl, ?_⟩) hHeld ?_ ?_
  rotate_left
  · rintro w' ⟨s0, s1, s2, s3, s4, s5⟩; go_simp; with_reducible rfl
  rotate_left
  · simp only [Act.put, zA, zB, zC, i64_w, i32_w]; rfl
  refine pure_ (i := 15) (N := some 35) (v := ?_) (a' := ?_) (bl 33 65535) rfl rfl (by kernel_rfl) (fun _ _ _ h => h) (Or.inl ⟨by rfl, ?_⟩) ?_ ?_
  rotate_left
  · intro w'; go_simp; with_reducible rfl
  rotate_left
  · simp only [Act.put, zA, zB, zC, i64_w, i32_w]; rfl
  refine pure_ (i := 16) (N := some 36) (v := ?_) (a' := ?_) (bl 33 131071) rfl rfl (by kernel_rfl) (fun _ _ _ h => h) (Or.inl ⟨by rfl, ?_⟩) ?_ ?_
  rotate_left
  · intro w'; go_simp; with_reducible rfl
  rotate_left
  · simp only [Act.put, zA, zB, zC, i64_w, i32_w]; rfl
  refine pure_ (i := 17) (N := some 37) (v := ?_) (a' := ?_) (bl 33 262143) rfl rfl (by kernel_rfl) (fun _ _ _ h => h) (Or.inl ⟨by rfl, ?_⟩) ?_ ?_
  rotate_left
  · intro w'; go_simp; with_reducible rfl
  rotate_left
  · simp only [Act.put, zA, zB, zC, i64_w, i32_w]; rfl
  refine pure_ (i := 18) (N := some 38) (v := ?_) (a' := ?_) (bl 33 524287) rfl rfl (by kernel_rfl) (fun _ _ _ h => h) (Or.inl ⟨by rfl, ?_⟩) ?_ ?_
  rotate_left
  · intro w'; go_simp; with_reducible rfl
  rotate_left
  · simp only [Act.put, zA, zB, zC, i64_w, i32_w]; rfl
  refine pure_ (i := 20) (N := some 40) (v := ?_) (a' := ?_) (bl 33 1572863) rfl rfl (by kernel_rfl) (fun _ _ _ h => h) (Or.inl ⟨by rfl, ?_⟩) ?_ ?_
  rotate_left
  · intro w'; go_simp; with_reducible rfl
  rotate_left
  · simp only [Act.put, zA, zB, zC, i64_w, i32_w]; rfl
  refine take_ (i := 19) (N := some 39) (v := ?_) (a' := ?_) (bl 33 2097151) rfl rfl (by kernel_rfl) (fun _ _ _ h => h) (Or.inl ⟨by rfl, ?_⟩) hHeld ?_ ?_
  rotate_left
  · rintro w' ⟨s0, s1, s2, s3, s4, s5⟩; go_simp; with_reducible rfl
  rotate_left
  · simp only [Act.put, zA, zB, zC, i64_w, i32_w]; rfl
  refine take_ (i := 21) (N := some 41) (v := ?_) (a' := ?_) (bl 33 4194303) rfl rfl (by kernel_rfl) (fun _ _ _ h => h) (Or.inl ⟨by rfl, ?_⟩) hHeld ?_ ?_
  rotate_left
  · rintro w' ⟨s0, s1, s2, s3, s4, s5⟩; go_simp; with_reducible rfl
  rotate_left
  · simp only [Act.put, zA, zB, zC, i64_w, i32_w]; rfl
  refine pure_ (i := 22) (N := some 42) (v := ?_) (a' := ?_) (bl 33 8388607) rfl rfl (by kernel_rfl) (fun _ _ _ h => h) (Or.inl ⟨by rfl, ?_⟩) ?_ ?_
  rotate_left
  · intro w'; go_simp; with_reducible rfl
  rotate_left
  · simp only [Act.put, zA, zB, zC, i64_w, i32_w]; rfl
  refine pure_ (i := 23) (N := some 43) (v := ?_) (a' := ?_) (bl 33 16777215) rfl rfl (by kernel_rfl) (fun _ _ _ h => h) (Or.inl ⟨by rfl, ?_⟩) ?_ ?_
  rotate_left
  · intro w'; go_simp; with_reducible rfl
  rotate_left
  · simp only [Act.put, zA, zB, zC, i64_w, i32_w]; rfl
  refine pure_ (i := 24) (N := some 44) (v := ?_) (a' := ?_) (bl 33 33554431) rfl rfl (by kernel_rfl) (fun _ _ _ h => h) (Or.inl ⟨by rfl, ?_⟩) ?_ ?_
  rotate_left
  · intro w'; go_simp; with_reducible rfl
  rotate_left
  · simp only [Act.put, zA, zB, zC, i64_w, i32_w]; rfl
  refine take_ (i := 25) (N := some 45) (v := ?_) (a' := ?_) (bl 33 67108863) rfl rfl (by kernel_rfl) (fun _ _ _ h => h) (Or.inl ⟨by rfl, ?_⟩) hHeld ?_ ?_
  rotate_left
  · rintro w' ⟨s0, s1, s2, s3, s4, s5⟩; go_simp; with_reducible rfl
  rotate_left
  · simp only [Act.put, zA, zB, zC, i64_w, i32_w]; rfl
  refine one_ (i := 26) (N := some 46) (bl 33 134217727) rfl rfl (by kernel_rfl) (by decide) (fun K hK => ?_)
  refine goes_ Try.func42 (by kernel_rfl) rfl #[] (by rfl) rfl rfl (by (try simp only [List.map_toArray, List.map_cons, List.map_nil]); first | done | rfl) ?_
  with_reducible refine (full_c _).mono ?_
  rintro e wv4 ⟨rfl, hb⟩; refine ⟨_, rfl, ?_⟩
  replace HB := Aside0.mk (HB.out.step hb); clear hb
  refine hK.out _ _ ⟨HB.out.c0 0 rfl, HB.out.c1 0 rfl, HB.out.c0 1 rfl, HB.out.c1 1 rfl, HB.out.c0 2 rfl, HB.out.c1 2 rfl⟩ (fun hHeld => ?_)
  clear hK K
  refine norm_ (a' := ?_) ?_ ?_; rotate_left
  · show Act.put _ (some 46) _ = _; simp only [Act.put, zA, zB, zC, i64_w, i32_w]; rfl
  refine pure_ (i := 27) (N := some 47) (v := ?_) (a' := ?_) (bl 33 268435455) rfl rfl (by kernel_rfl) (fun _ _ _ h => h) (Or.inl ⟨by rfl, ?_⟩) ?_ ?_
  rotate_left
  · intro w'; go_simp; with_reducible rfl
  rotate_left
  · simp only [Act.put, zA, zB, zC, i64_w, i32_w]; rfl
  refine pure_ (i := 28) (N := some 48) (v := ?_) (a' := ?_) (bl 33 536870911) rfl rfl (by kernel_rfl) (fun _ _ _ h => h) (Or.inl ⟨by rfl, ?_⟩) ?_ ?_
  rotate_left
  · intro w'; go_simp; with_reducible rfl
  rotate_left
  · simp only [Act.put, zA, zB, zC, i64_w, i32_w]; rfl
  refine pure_ (i := 29) (N := some 49) (v := ?_) (a' := ?_) (bl 33 1073741823) rfl rfl (by kernel_rfl) (fun _ _ _ h => h) (Or.inl ⟨by rfl, ?_⟩) ?_ ?_
  rotate_left
  · intro w'; go_simp; with_reducible rfl
  rotate_left
  · simp only [Act.put, zA, zB, zC, i64_w, i32_w]; rfl
  refine take_ (i := 30) (N := some 50) (v := ?_) (a' := ?_) (bl 33 2147483647) rfl rfl (by kernel_rfl) (fun _ _ _ h => h) (Or.inl ⟨by rfl, ?_⟩) hHeld ?_ ?_
  rotate_left
  · rintro w' ⟨s0, s1, s2, s3, s4, s5⟩; go_simp; with_reducible rfl
  rotate_left
  · simp only [Act.put, zA, zB, zC, i64_w, i32_w]; rfl
  refine one_ (i := 31) (N := some 51) (bl 33 4294967295) rfl rfl (by kernel_rfl) (by decide) (fun K hK => ?_)
  refine goes_ Try.func32 (by kernel_rfl) rfl #[.agg #[.int .i32 z1, .int .i32 z2]] (by rfl) rfl rfl (by (try simp only [List.map_toArray, List.map_cons, List.map_nil]); first | done | rfl) ?_
  with_reducible refine (isE_c _ _ _ hE.out _).mono ?_
  rintro e wv5 ⟨rfl, hb⟩; refine ⟨_, rfl, ?_⟩
  replace HB := Aside0.mk (HB.out.step hb); clear hb
  refine hK.out _ _ ⟨HB.out.c0 0 rfl, HB.out.c1 0 rfl, HB.out.c0 1 rfl, HB.out.c1 1 rfl, HB.out.c0 2 rfl, HB.out.c1 2 rfl⟩ (fun hHeld => ?_)
  clear hK K
  refine norm_ (a' := ?_) ?_ ?_; rotate_left
  · show Act.put _ (some 51) _ = _; simp only [Act.put, zA, zB, zC, i64_w, i32_w]; rfl
  refine pure_ (i := 32) (N := some 52) (v := ?_) (a' := ?_) (bl 33 8589934591) rfl rfl (by kernel_rfl) (fun _ _ _ h => h) (Or.inl ⟨by rfl, ?_⟩) ?_ ?_
  rotate_left
  · intro w'; go_simp; with_reducible rfl
  rotate_left
  · simp only [Act.put, zA, zB, zC, i64_w, i32_w]; rfl
  refine done_ (by kernel_rfl) ?_
  have C := HB.out.cl
  simp only [Cl, and_true] at C
  obtain ⟨_, _, _, _, _, _, _, _, _, _, _, _⟩ := C
  go_wp2_with fail
  have HS := Aside0.mk (Num.new wv5 #[.int .i32 a1, .int .i32 b1])
  replace HB := Aside0.mk (HB.out.alloc (.cells #[.int .i32 a1, .int .i32 b1] 21))
  generalize World.alloc wv5 _ = ws at HB HS ⊢
  generalize wv5.heap.size = gs at HS ⊢
  go_loopg [8, 9, 60] 2 (fun kq v8 v9 v60 w' => ∃ (i : Nat) (lo hi : Bool), i + kq = 2 ∧ v8 = .bool lo ∧ v9 = .bool hi ∧ v60 = .int .i64 (i : Int) ∧ Aside0 (Inv i0 j0 i1 j1 i 0 lo hi) ∧ Aside0 (Bx w [(w.heap.size, a1, b1), (w.heap.size + 1, a2, b2), (g7, z1, z2)] w') ∧ Aside0 (Num w' gs #[.int .i32 a1, .int .i32 b1]))
  case atStart => exact ⟨0, false, false, rfl, rfl, rfl, rfl, ⟨⟨fun h => by omega, fun h => by omega⟩⟩, HB, HS⟩
  case round =>
    clear HB HS
    obtain ⟨i, lo, hi, hi2, rfl, rfl, rfl, HI, HB, HS⟩ := hrel
    by_cases h6 : i < 2
    · skip
      have hcx := HS.out.at2 h6
      generalize hxs : xs a1 b1 i = x at hcx
      have HX := Aside0.mk hxs
      clear hxs
      have hd : decide ((i : Int) < 2) = true := decide_eq_true (by omega)
      have hi3 : (0 : Int) ≤ i := by omega
      have C := HB.out.cl
      simp only [Cl, and_true] at C
      obtain ⟨_, _, _, _, _, _, _, _, _, _, _, _⟩ := C
      go_upto_region 8 with (fail)
      replace HB := Aside0.mk (HB.out.drew)
      replace HS := Aside0.mk (HS.out.drew)
      refine start_ (n := 11) (S := fun w' => w'.cell? ⟨w.heap.size + 1, 0, none⟩ = some (.int .i32 a2) ∧ w'.cell? ⟨w.heap.size + 1, 1, none⟩ = some (.int .i32 b2)) (ds := []) #[false, false, false, false, false, false, false, false, false, false, false] (by kernel_rfl) rfl rfl ⟨HB.out.c0 1 rfl, HB.out.c1 1 rfl⟩ (fun hHeld => ?_)
      generalize wr.drew = wv6 at HB HS hHeld ⊢
      refine pure_ (i := 0) (N := some 64) (v := ?_) (a' := ?_) (bl 11 1) rfl rfl (by kernel_rfl) (fun _ _ _ h => h) (Or.inl ⟨by rfl, ?_⟩) ?_ ?_
      rotate_left
      · intro w'; go_simp; with_reducible rfl
      rotate_left
      · simp only [Act.put, zA, zB, zC, i64_w, i32_w]; rfl
      refine pure_ (i := 2) (N := some 66) (v := ?_) (a' := ?_) (bl 11 5) rfl rfl (by kernel_rfl) (fun _ _ _ h => h) (Or.inl ⟨by rfl, ?_⟩) ?_ ?_
      rotate_left
      · intro w'; go_simp; with_reducible rfl
      rotate_left
      · simp only [Act.put, zA, zB, zC, i64_w, i32_w]; rfl
      refine pure_ (i := 10) (N := some 74) (v := ?_) (a' := ?_) (bl 11 1029) rfl rfl (by kernel_rfl) (fun _ _ _ h => h) (Or.inl ⟨by rfl, ?_⟩) ?_ ?_
      rotate_left
      · intro w'; go_simp; with_reducible rfl
      rotate_left
      · simp only [Act.put, zA, zB, zC, i64_w, i32_w]; rfl
      refine take_ (i := 1) (N := some 65) (v := ?_) (a' := ?_) (bl 11 1031) rfl rfl (by kernel_rfl) (fun _ _ _ h => h) (Or.inl ⟨by rfl, ?_⟩) hHeld ?_ ?_
      rotate_left
      · rintro w' ⟨s0, s1⟩; go_simp; with_reducible rfl
      rotate_left
      · simp only [Act.put, zA, zB, zC, i64_w, i32_w]; rfl
      refine take_ (i := 3) (N := some 67) (v := ?_) (a' := ?_) (bl 11 1039) rfl rfl (by kernel_rfl) (fun _ _ _ h => h) (Or.inl ⟨by rfl, ?_⟩) hHeld ?_ ?_
      rotate_left
      · rintro w' ⟨s0, s1⟩; go_simp; with_reducible rfl
      rotate_left
      · simp only [Act.put, zA, zB, zC, i64_w, i32_w]; rfl
      refine take_ (i := 4) (N := some 68) (v := ?_) (a' := ?_) (bl 11 1055) rfl rfl (by kernel_rfl) (fun _ _ _ h => h) (Or.inl ⟨by rfl, ?_⟩) hHeld ?_ ?_
      rotate_left
      · rintro w' ⟨s0, s1⟩; go_simp; with_reducible rfl
      rotate_left
      · simp only [Act.put, zA, zB, zC, i64_w, i32_w]; rfl
      refine take_ (i := 6) (N := some 70) (v := ?_) (a' := ?_) (bl 11 1119) rfl rfl (by kernel_rfl) (fun _ _ _ h => h) (Or.inl ⟨by rfl, ?_⟩) hHeld ?_ ?_
      rotate_left
      · rintro w' ⟨s0, s1⟩; go_simp; with_reducible rfl
      rotate_left
      · simp only [Act.put, zA, zB, zC, i64_w, i32_w]; rfl
      refine one_ (i := 5) (N := some 69) (bl 11 1151) rfl rfl (by kernel_rfl) (by decide) (fun K hK => ?_)
      refine goes_ Try.func41 (by kernel_rfl) rfl #[.agg #[.int .i32 a2, .int .i32 b2], .int .i32 (-1)] (by rfl) rfl rfl (by (try simp only [List.map_toArray, List.map_cons, List.map_nil]); first | done | rfl) ?_
      with_reducible refine (clamp_c _ _ _ _ rfl _).mono ?_
      rintro e wv7 ⟨rfl, hb⟩; refine ⟨_, rfl, ?_⟩
      replace HS := Aside0.mk (HS.out.step hb)
      replace HB := Aside0.mk (HB.out.step hb); clear hb
      refine hK.out _ _ ⟨HB.out.c0 1 rfl, HB.out.c1 1 rfl⟩ (fun hHeld => ?_)
      clear hK K
      refine norm_ (a' := ?_) ?_ ?_; rotate_left
      · show Act.put _ (some 69) _ = _; simp only [Act.put, zA, zB, zC, i64_w, i32_w]; rfl
      refine one_ (i := 7) (N := some 71) (bl 11 1279) rfl rfl (by kernel_rfl) (by decide) (fun K hK => ?_)
      refine goes_ Try.func41 (by kernel_rfl) rfl #[.agg #[.int .i32 a2, .int .i32 b2], .int .i32 1] (by rfl) rfl rfl (by (try simp only [List.map_toArray, List.map_cons, List.map_nil]); first | done | rfl) ?_
      with_reducible refine (clamp_c _ _ _ _ rfl _).mono ?_
      rintro e wv8 ⟨rfl, hb⟩; refine ⟨_, rfl, ?_⟩
      replace HS := Aside0.mk (HS.out.step hb)
      replace HB := Aside0.mk (HB.out.step hb); clear hb
      refine hK.out _ _ ⟨HB.out.c0 1 rfl, HB.out.c1 1 rfl⟩ (fun hHeld => ?_)
      clear hK K
      refine norm_ (a' := ?_) ?_ ?_; rotate_left
      · show Act.put _ (some 71) _ = _; simp only [Act.put, zA, zB, zC, i64_w, i32_w]; rfl
      refine one_ (i := 8) (N := some 72) (bl 11 1535) rfl rfl (by kernel_rfl) (by decide) (fun K hK => ?_)
      refine value_ (w1 := ?_) (v := ?_) (by rfl) rfl ?_ ?_
      rotate_left 2
      · go_simp
        constructor
        · rfl
        · rfl
      have HT := Aside0.mk (Num.new wv8 #[.int .i32 a2, .int .i32 b2, .int .i32 (clampv a2 b2 (-1)), .int .i32 (clampv a2 b2 1)])
      replace HB := Aside0.mk (HB.out.alloc (.cells #[.int .i32 a2, .int .i32 b2, .int .i32 (clampv a2 b2 (-1)), .int .i32 (clampv a2 b2 1)] 21))
      replace HS := Aside0.mk (HS.out.alloc (.cells #[.int .i32 a2, .int .i32 b2, .int .i32 (clampv a2 b2 (-1)), .int .i32 (clampv a2 b2 1)] 21))
      generalize World.alloc wv8 _ = wt at HB HS HT ⊢
      generalize wv8.heap.size = gt at HT ⊢
      refine hK.out _ _ ⟨HB.out.c0 1 rfl, HB.out.c1 1 rfl⟩ (fun hHeld => ?_)
      clear hK K
      refine norm_ (a' := ?_) ?_ ?_; rotate_left
      · show Act.put _ (some 72) _ = _; simp only [Act.put, zA, zB, zC, i64_w, i32_w]; rfl
      refine pure_ (i := 9) (N := some 73) (v := ?_) (a' := ?_) (bl 11 2047) rfl rfl (by kernel_rfl) (fun _ _ _ h => h) (Or.inl ⟨by rfl, ?_⟩) ?_ ?_
      rotate_left
      · intro w'; go_simp; with_reducible rfl
      rotate_left
      · simp only [Act.put, zA, zB, zC, i64_w, i32_w]; rfl
      refine done_ (by kernel_rfl) ?_
      have C := HB.out.cl
      simp only [Cl, and_true] at C
      obtain ⟨_, _, _, _, _, _, _, _, _, _, _, _⟩ := C
      go_wp2_with fail
      go_loopg [8, 9, 74] 4 (fun kq v8 v9 v74 w' => ∃ (j : Nat) (lo hi : Bool), j + kq = 4 ∧ v8 = .bool lo ∧ v9 = .bool hi ∧ v74 = .int .i64 (j : Int) ∧ Aside0 (Inv i0 j0 i1 j1 i j lo hi) ∧ Aside0 (Bx w [(w.heap.size, a1, b1), (w.heap.size + 1, a2, b2), (g7, z1, z2)] w') ∧ Aside0 (Num w' gs #[.int .i32 a1, .int .i32 b1]) ∧ Aside0 (Num w' gt #[.int .i32 a2, .int .i32 b2, .int .i32 (clampv a2 b2 (-1)), .int .i32 (clampv a2 b2 1)]))
      case atStart => exact ⟨0, lo, hi, rfl, rfl, rfl, rfl, HI, HB, HS, HT⟩
      case round =>
        clear HB HS HT HI
        obtain ⟨j, lo, hi, hj, rfl, rfl, rfl, HI, HB, HS, HT⟩ := hrel
        by_cases h7 : j < 4
        · skip
          have hcy := HT.out.at4 h7
          generalize hys : ys a2 b2 j = y at hcy
          have HY := Aside0.mk hys
          clear hys
          have hd7 : decide ((j : Int) < 4) = true := decide_eq_true (by omega)
          have hj3 : (0 : Int) ≤ j := by omega
          generalize hv : wv op x y = p
          obtain ⟨v, e⟩ := p
          have HV := Aside0.mk hv
          clear hv
          generalize hq1 : (v == z1) = q1
          generalize hq2 : (v == z2) = q2
          have hA : Aside0 (Hit i0 j0 i j e q1) := ⟨fun ⟨k1, k2⟩ => by have k := hlo.out; rw [k1, k2, HX.out, HY.out, HV.out] at k; obtain ⟨rfl, rfl⟩ := Prod.mk.inj k; exact ⟨rfl, by rw [← hq1]; exact beq_self_eq_true v⟩⟩
          have hB : Aside0 (Hit i1 j1 i j e q2) := ⟨fun ⟨k1, k2⟩ => by have k := hhi.out; rw [k1, k2, HX.out, HY.out, HV.out] at k; obtain ⟨rfl, rfl⟩ := Prod.mk.inj k; exact ⟨rfl, by rw [← hq2]; exact beq_self_eq_true v⟩⟩
          skip
          go_wp2_with fail
          (with_reducible refine (word_c _ _ _ _ _ HV.out _).mono ?_); rintro zz w1 ⟨rfl, nd, rfl⟩
          replace HB := Aside0.mk (HB.out.drewN nd)
          replace HS := Aside0.mk (HS.out.drewN nd)
          replace HT := Aside0.mk (HT.out.drewN nd)
          generalize World.drewN wr nd = w1 at HB HS HT ⊢
          have C := HB.out.cl
          simp only [Cl, and_true] at C
          obtain ⟨_, _, _, _, _, _, _, _, _, _, _, _⟩ := C
          go_upto_region 12 with (fail)
          by_cases he : e = 0
          · skip
            subst he
            cases lo with
            | false =>
              cases hi with
              | false =>
                replace HB := Aside0.mk (HB.out.drew)
                replace HS := Aside0.mk (HS.out.drew)
                replace HT := Aside0.mk (HT.out.drew)
                refine start_ (n := 24) (S := fun w' => w'.cell? ⟨g7, 0, none⟩ = some (.int .i32 z1) ∧ w'.cell? ⟨g7, 1, none⟩ = some (.int .i32 z2)) (ds := []) #[false, false, false, false, false, false, false, false, false, false, false, false, false, false, false, false, false, false, false, false, false, false, false, false] (by kernel_rfl) rfl rfl ⟨HB.out.c0 2 rfl, HB.out.c1 2 rfl⟩ (fun hHeld => ?_)
                generalize w1.drew = wv9 at HB HS HT hHeld ⊢
                refine pure_ (i := 0) (N := some 85) (v := ?_) (a' := ?_) (bl 24 1) rfl rfl (by kernel_rfl) (fun _ _ _ h => h) (Or.inl ⟨by rfl, ?_⟩) ?_ ?_
                rotate_left
                · intro w'; go_simp; with_reducible rfl
                rotate_left
                · simp only [Act.put, zA, zB, zC, i64_w, i32_w]; rfl
                refine pure_ (i := 1) (N := some 86) (v := ?_) (a' := ?_) (bl 24 3) rfl rfl (by kernel_rfl) (fun _ _ _ h => h) (Or.inl ⟨by rfl, ?_⟩) ?_ ?_
                rotate_left
                · intro w'; go_simp; with_reducible rfl
                rotate_left
                · simp only [Act.put, zA, zB, zC, i64_w, i32_w]; rfl
                refine pure_ (i := 2) (N := some 87) (v := ?_) (a' := ?_) (bl 24 7) rfl rfl (by kernel_rfl) (fun _ _ _ h => h) (Or.inl ⟨by rfl, ?_⟩) ?_ ?_
                rotate_left
                · intro w'; go_simp; with_reducible rfl
                rotate_left
                · simp only [Act.put, zA, zB, zC, i64_w, i32_w]; rfl
                refine pure_ (i := 3) (N := some 88) (v := ?_) (a' := ?_) (bl 24 15) rfl rfl (by kernel_rfl) (fun _ _ _ h => h) (Or.inl ⟨by rfl, ?_⟩) ?_ ?_
                rotate_left
                · intro w'; go_simp; with_reducible rfl
                rotate_left
                · simp only [Act.put, zA, zB, zC, i64_w, i32_w]; rfl
                refine pure_ (i := 4) (N := some 89) (v := ?_) (a' := ?_) (bl 24 31) rfl rfl (by kernel_rfl) (fun _ _ _ h => h) (Or.inl ⟨by rfl, ?_⟩) ?_ ?_
                rotate_left
                · intro w'; go_simp; with_reducible rfl
                rotate_left
                · simp only [Act.put, zA, zB, zC, i64_w, i32_w]; rfl
                refine pure_ (i := 5) (N := some 90) (v := ?_) (a' := ?_) (bl 24 63) rfl rfl (by kernel_rfl) (fun _ _ _ h => h) (Or.inl ⟨by rfl, ?_⟩) ?_ ?_
                rotate_left
                · intro w'; go_simp; with_reducible rfl
                rotate_left
                · simp only [Act.put, zA, zB, zC, i64_w, i32_w]; rfl
                refine pure_ (i := 6) (N := some 91) (v := ?_) (a' := ?_) (bl 24 127) rfl rfl (by kernel_rfl) (fun _ _ _ h => h) (Or.inl ⟨by rfl, ?_⟩) ?_ ?_
                rotate_left
                · intro w'; go_simp; with_reducible rfl
                rotate_left
                · simp only [Act.put, zA, zB, zC, i64_w, i32_w]; rfl
                refine pure_ (i := 11) (N := some 96) (v := ?_) (a' := ?_) (bl 24 2175) rfl rfl (by kernel_rfl) (fun _ _ _ h => h) (Or.inl ⟨by rfl, ?_⟩) ?_ ?_
                rotate_left
                · intro w'; go_simp; with_reducible rfl
                rotate_left
                · simp only [Act.put, zA, zB, zC, i64_w, i32_w]; rfl
                refine pure_ (i := 12) (N := some 97) (v := ?_) (a' := ?_) (bl 24 6271) rfl rfl (by kernel_rfl) (fun _ _ _ h => h) (Or.inl ⟨by rfl, ?_⟩) ?_ ?_
                rotate_left
                · intro w'; go_simp; with_reducible rfl
                rotate_left
                · simp only [Act.put, zA, zB, zC, i64_w, i32_w]; rfl
                refine pure_ (i := 13) (N := some 98) (v := ?_) (a' := ?_) (bl 24 14463) rfl rfl (by kernel_rfl) (fun _ _ _ h => h) (Or.inl ⟨by rfl, ?_⟩) ?_ ?_
                rotate_left
                · intro w'; go_simp; with_reducible rfl
                rotate_left
                · simp only [Act.put, zA, zB, zC, i64_w, i32_w]; rfl
                refine pure_ (i := 14) (N := some 99) (v := ?_) (a' := ?_) (bl 24 30847) rfl rfl (by kernel_rfl) (fun _ _ _ h => h) (Or.inl ⟨by rfl, ?_⟩) ?_ ?_
                rotate_left
                · intro w'; go_simp; with_reducible rfl
                rotate_left
                · simp only [Act.put, zA, zB, zC, i64_w, i32_w]; rfl
                refine pure_ (i := 15) (N := some 100) (v := ?_) (a' := ?_) (bl 24 63615) rfl rfl (by kernel_rfl) (fun _ _ _ h => h) (Or.inl ⟨by rfl, ?_⟩) ?_ ?_
                rotate_left
                · intro w'; go_simp; with_reducible rfl
                rotate_left
                · simp only [Act.put, zA, zB, zC, i64_w, i32_w]; rfl
                refine pure_ (i := 16) (N := some 101) (v := ?_) (a' := ?_) (bl 24 129151) rfl rfl (by kernel_rfl) (fun _ _ _ h => h) (Or.inl ⟨by rfl, ?_⟩) ?_ ?_
                rotate_left
                · intro w'; go_simp; with_reducible rfl
                rotate_left
                · simp only [Act.put, zA, zB, zC, i64_w, i32_w]; rfl
                refine pure_ (i := 17) (N := some 102) (v := ?_) (a' := ?_) (bl 24 260223) rfl rfl (by kernel_rfl) (fun _ _ _ h => h) (Or.inl ⟨by rfl, ?_⟩) ?_ ?_
                rotate_left
                · intro w'; go_simp; with_reducible rfl
                rotate_left
                · simp only [Act.put, zA, zB, zC, i64_w, i32_w]; rfl
                refine take_ (i := 7) (N := some 92) (v := ?_) (a' := ?_) (bl 24 260351) rfl rfl (by kernel_rfl) (fun _ _ _ h => h) (Or.inl ⟨by rfl, ?_⟩) hHeld ?_ ?_
                rotate_left
                · rintro w' ⟨s0, s1⟩; go_simp; with_reducible rfl
                rotate_left
                · simp only [Act.put, zA, zB, zC, i64_w, i32_w]; rfl
                refine pure_ (i := 8) (N := some 93) (v := ?_) (a' := ?_) (bl 24 260607) rfl rfl (by kernel_rfl) (fun _ _ _ h => h) (Or.inl ⟨by rfl, ?_⟩) ?_ ?_
                rotate_left
                · intro w'; go_simp; with_reducible rfl
                rotate_left
                · simp only [Act.put, zA, zB, zC, i64_w, i32_w]; rfl
                refine pure_ (i := 9) (N := some 94) (v := ?_) (a' := ?_) (bl 24 261119) rfl rfl (by kernel_rfl) (fun _ _ _ h => h) (Or.inl ⟨by rfl, ?_⟩) ?_ ?_
                rotate_left
                · intro w'; go_simp; with_reducible rfl
                rotate_left
                · simp only [Act.put, zA, zB, zC, i64_w, i32_w]; rfl
                refine pure_ (i := 10) (N := some 95) (v := ?_) (a' := ?_) (bl 24 262143) rfl rfl (by kernel_rfl) (fun _ _ _ h => h) (Or.inl ⟨by rfl, ?_⟩) ?_ ?_
                rotate_left
                · intro w'; go_simp; with_reducible rfl
                rotate_left
                · simp only [Act.put, zA, zB, zC, i64_w, i32_w]; rfl
                refine pure_ (i := 22) (N := some 8) (v := ?_) (a' := ?_) (bl 24 4456447) rfl rfl (by kernel_rfl) (fun _ _ _ h => h) (Or.inl ⟨by rfl, ?_⟩) ?_ ?_
                rotate_left
                · intro w'; go_simp; with_reducible rfl
                rotate_left
                · simp only [Act.put, zA, zB, zC, i64_w, i32_w]; rfl
                refine take_ (i := 18) (N := some 103) (v := ?_) (a' := ?_) (bl 24 4718591) rfl rfl (by kernel_rfl) (fun _ _ _ h => h) (Or.inl ⟨by rfl, ?_⟩) hHeld ?_ ?_
                rotate_left
                · rintro w' ⟨s0, s1⟩; go_simp; with_reducible rfl
                rotate_left
                · simp only [Act.put, zA, zB, zC, i64_w, i32_w]; rfl
                refine pure_ (i := 19) (N := some 104) (v := ?_) (a' := ?_) (bl 24 5242879) rfl rfl (by kernel_rfl) (fun _ _ _ h => h) (Or.inl ⟨by rfl, ?_⟩) ?_ ?_
                rotate_left
                · intro w'; go_simp; with_reducible rfl
                rotate_left
                · simp only [Act.put, zA, zB, zC, i64_w, i32_w]; rfl
                refine pure_ (i := 20) (N := some 105) (v := ?_) (a' := ?_) (bl 24 6291455) rfl rfl (by kernel_rfl) (fun _ _ _ h => h) (Or.inl ⟨by rfl, ?_⟩) ?_ ?_
                rotate_left
                · intro w'; go_simp; with_reducible rfl
                rotate_left
                · simp only [Act.put, zA, zB, zC, i64_w, i32_w]; rfl
                refine pure_ (i := 21) (N := some 106) (v := ?_) (a' := ?_) (bl 24 8388607) rfl rfl (by kernel_rfl) (fun _ _ _ h => h) (Or.inl ⟨by rfl, ?_⟩) ?_ ?_
                rotate_left
                · intro w'; go_simp; with_reducible rfl
                rotate_left
                · simp only [Act.put, zA, zB, zC, i64_w, i32_w]; rfl
                refine pure_ (i := 23) (N := some 9) (v := ?_) (a' := ?_) (bl 24 16777215) rfl rfl (by kernel_rfl) (fun _ _ _ h => h) (Or.inl ⟨by rfl, ?_⟩) ?_ ?_
                rotate_left
                · intro w'; go_simp; with_reducible rfl
                rotate_left
                · simp only [Act.put, zA, zB, zC, i64_w, i32_w]; rfl
                refine done_ (by kernel_rfl) ?_
                have C := HB.out.cl
                simp only [Cl, and_true] at C
                obtain ⟨_, _, _, _, _, _, _, _, _, _, _, _⟩ := C
                go_wp2_with fail
                go_roundg (3 - j)
                case measure => omega
                case rel => exact ⟨j + 1, q1, q2, by omega, by first | rfl | (simp; done) | (simp [*]; done), by first | rfl | (simp; done) | (simp [*]; done), by simp, ⟨⟨keep HI.out.1 (fun c => by cases c) (fun k => (hA.out k).2), keep HI.out.2 (fun c => by cases c) (fun k => (hB.out k).2)⟩⟩, HB, HS, HT⟩
              | true =>
                replace HB := Aside0.mk (HB.out.drew)
                replace HS := Aside0.mk (HS.out.drew)
                replace HT := Aside0.mk (HT.out.drew)
                refine start_ (n := 24) (S := fun w' => w'.cell? ⟨g7, 0, none⟩ = some (.int .i32 z1) ∧ w'.cell? ⟨g7, 1, none⟩ = some (.int .i32 z2)) (ds := []) #[false, false, false, false, false, false, false, false, false, false, false, false, false, false, false, false, false, false, false, false, false, false, false, false] (by kernel_rfl) rfl rfl ⟨HB.out.c0 2 rfl, HB.out.c1 2 rfl⟩ (fun hHeld => ?_)
                generalize w1.drew = wv9 at HB HS HT hHeld ⊢
                refine pure_ (i := 0) (N := some 85) (v := ?_) (a' := ?_) (bl 24 1) rfl rfl (by kernel_rfl) (fun _ _ _ h => h) (Or.inl ⟨by rfl, ?_⟩) ?_ ?_
                rotate_left
                · intro w'; go_simp; with_reducible rfl
                rotate_left
                · simp only [Act.put, zA, zB, zC, i64_w, i32_w]; rfl
                refine pure_ (i := 1) (N := some 86) (v := ?_) (a' := ?_) (bl 24 3) rfl rfl (by kernel_rfl) (fun _ _ _ h => h) (Or.inl ⟨by rfl, ?_⟩) ?_ ?_
                rotate_left
                · intro w'; go_simp; with_reducible rfl
                rotate_left
                · simp only [Act.put, zA, zB, zC, i64_w, i32_w]; rfl
                refine pure_ (i := 2) (N := some 87) (v := ?_) (a' := ?_) (bl 24 7) rfl rfl (by kernel_rfl) (fun _ _ _ h => h) (Or.inl ⟨by rfl, ?_⟩) ?_ ?_
                rotate_left
                · intro w'; go_simp; with_reducible rfl
                rotate_left
                · simp only [Act.put, zA, zB, zC, i64_w, i32_w]; rfl
                refine pure_ (i := 3) (N := some 88) (v := ?_) (a' := ?_) (bl 24 15) rfl rfl (by kernel_rfl) (fun _ _ _ h => h) (Or.inl ⟨by rfl, ?_⟩) ?_ ?_
                rotate_left
                · intro w'; go_simp; with_reducible rfl
                rotate_left
                · simp only [Act.put, zA, zB, zC, i64_w, i32_w]; rfl
                refine pure_ (i := 4) (N := some 89) (v := ?_) (a' := ?_) (bl 24 31) rfl rfl (by kernel_rfl) (fun _ _ _ h => h) (Or.inl ⟨by rfl, ?_⟩) ?_ ?_
                rotate_left
                · intro w'; go_simp; with_reducible rfl
                rotate_left
                · simp only [Act.put, zA, zB, zC, i64_w, i32_w]; rfl
                refine pure_ (i := 5) (N := some 90) (v := ?_) (a' := ?_) (bl 24 63) rfl rfl (by kernel_rfl) (fun _ _ _ h => h) (Or.inl ⟨by rfl, ?_⟩) ?_ ?_
                rotate_left
                · intro w'; go_simp; with_reducible rfl
                rotate_left
                · simp only [Act.put, zA, zB, zC, i64_w, i32_w]; rfl
                refine pure_ (i := 6) (N := some 91) (v := ?_) (a' := ?_) (bl 24 127) rfl rfl (by kernel_rfl) (fun _ _ _ h => h) (Or.inl ⟨by rfl, ?_⟩) ?_ ?_
                rotate_left
                · intro w'; go_simp; with_reducible rfl
                rotate_left
                · simp only [Act.put, zA, zB, zC, i64_w, i32_w]; rfl
                refine pure_ (i := 11) (N := some 96) (v := ?_) (a' := ?_) (bl 24 2175) rfl rfl (by kernel_rfl) (fun _ _ _ h => h) (Or.inl ⟨by rfl, ?_⟩) ?_ ?_
                rotate_left
                · intro w'; go_simp; with_reducible rfl
                rotate_left
                · simp only [Act.put, zA, zB, zC, i64_w, i32_w]; rfl
                refine pure_ (i := 12) (N := some 97) (v := ?_) (a' := ?_) (bl 24 6271) rfl rfl (by kernel_rfl) (fun _ _ _ h => h) (Or.inl ⟨by rfl, ?_⟩) ?_ ?_
                rotate_left
                · intro w'; go_simp; with_reducible rfl
                rotate_left
                · simp only [Act.put, zA, zB, zC, i64_w, i32_w]; rfl
                refine pure_ (i := 13) (N := some 98) (v := undef) (a' := ?_) (bl 24 14463) rfl rfl (by kernel_rfl) (fun _ _ _ h => h) (Or.inr ⟨by rfl, rfl⟩) ?_ ?_
                rotate_left
                · simp only [Act.put, zA, zB, zC, i64_w, i32_w]; rfl
                refine pure_ (i := 14) (N := some 99) (v := undef) (a' := ?_) (bl 24 30847) rfl rfl (by kernel_rfl) (fun _ _ _ h => h) (Or.inr ⟨by rfl, rfl⟩) ?_ ?_
                rotate_left
                · simp only [Act.put, zA, zB, zC, i64_w, i32_w]; rfl
                refine pure_ (i := 15) (N := some 100) (v := undef) (a' := ?_) (bl 24 63615) rfl rfl (by kernel_rfl) (fun _ _ _ h => h) (Or.inr ⟨by rfl, rfl⟩) ?_ ?_
                rotate_left
                · simp only [Act.put, zA, zB, zC, i64_w, i32_w]; rfl
                refine pure_ (i := 16) (N := some 101) (v := undef) (a' := ?_) (bl 24 129151) rfl rfl (by kernel_rfl) (fun _ _ _ h => h) (Or.inr ⟨by rfl, rfl⟩) ?_ ?_
                rotate_left
                · simp only [Act.put, zA, zB, zC, i64_w, i32_w]; rfl
                refine pure_ (i := 17) (N := some 102) (v := undef) (a' := ?_) (bl 24 260223) rfl rfl (by kernel_rfl) (fun _ _ _ h => h) (Or.inr ⟨by rfl, rfl⟩) ?_ ?_
                rotate_left
                · simp only [Act.put, zA, zB, zC, i64_w, i32_w]; rfl
                refine pure_ (i := 18) (N := some 103) (v := undef) (a' := ?_) (bl 24 522367) rfl rfl (by kernel_rfl) (fun _ _ _ h => h) (Or.inr ⟨by rfl, rfl⟩) ?_ ?_
                rotate_left
                · simp only [Act.put, zA, zB, zC, i64_w, i32_w]; rfl
                refine pure_ (i := 19) (N := some 104) (v := undef) (a' := ?_) (bl 24 1046655) rfl rfl (by kernel_rfl) (fun _ _ _ h => h) (Or.inr ⟨by rfl, rfl⟩) ?_ ?_
                rotate_left
                · simp only [Act.put, zA, zB, zC, i64_w, i32_w]; rfl
                refine pure_ (i := 20) (N := some 105) (v := undef) (a' := ?_) (bl 24 2095231) rfl rfl (by kernel_rfl) (fun _ _ _ h => h) (Or.inr ⟨by rfl, rfl⟩) ?_ ?_
                rotate_left
                · simp only [Act.put, zA, zB, zC, i64_w, i32_w]; rfl
                refine pure_ (i := 21) (N := some 106) (v := ?_) (a' := ?_) (bl 24 4192383) rfl rfl (by kernel_rfl) (fun _ _ _ h => h) (Or.inl ⟨by rfl, ?_⟩) ?_ ?_
                rotate_left
                · intro w'; go_simp; with_reducible rfl
                rotate_left
                · simp only [Act.put, zA, zB, zC, i64_w, i32_w]; rfl
                refine take_ (i := 7) (N := some 92) (v := ?_) (a' := ?_) (bl 24 4192511) rfl rfl (by kernel_rfl) (fun _ _ _ h => h) (Or.inl ⟨by rfl, ?_⟩) hHeld ?_ ?_
                rotate_left
                · rintro w' ⟨s0, s1⟩; go_simp; with_reducible rfl
                rotate_left
                · simp only [Act.put, zA, zB, zC, i64_w, i32_w]; rfl
                refine pure_ (i := 8) (N := some 93) (v := ?_) (a' := ?_) (bl 24 4192767) rfl rfl (by kernel_rfl) (fun _ _ _ h => h) (Or.inl ⟨by rfl, ?_⟩) ?_ ?_
                rotate_left
                · intro w'; go_simp; with_reducible rfl
                rotate_left
                · simp only [Act.put, zA, zB, zC, i64_w, i32_w]; rfl
                refine pure_ (i := 9) (N := some 94) (v := ?_) (a' := ?_) (bl 24 4193279) rfl rfl (by kernel_rfl) (fun _ _ _ h => h) (Or.inl ⟨by rfl, ?_⟩) ?_ ?_
                rotate_left
                · intro w'; go_simp; with_reducible rfl
                rotate_left
                · simp only [Act.put, zA, zB, zC, i64_w, i32_w]; rfl
                refine pure_ (i := 10) (N := some 95) (v := ?_) (a' := ?_) (bl 24 4194303) rfl rfl (by kernel_rfl) (fun _ _ _ h => h) (Or.inl ⟨by rfl, ?_⟩) ?_ ?_
                rotate_left
                · intro w'; go_simp; with_reducible rfl
                rotate_left
                · simp only [Act.put, zA, zB, zC, i64_w, i32_w]; rfl
                refine pure_ (i := 22) (N := some 8) (v := ?_) (a' := ?_) (bl 24 8388607) rfl rfl (by kernel_rfl) (fun _ _ _ h => h) (Or.inl ⟨by rfl, ?_⟩) ?_ ?_
                rotate_left
                · intro w'; go_simp; with_reducible rfl
                rotate_left
                · simp only [Act.put, zA, zB, zC, i64_w, i32_w]; rfl
                refine pure_ (i := 23) (N := some 9) (v := ?_) (a' := ?_) (bl 24 16777215) rfl rfl (by kernel_rfl) (fun _ _ _ h => h) (Or.inl ⟨by rfl, ?_⟩) ?_ ?_
                rotate_left
                · intro w'; go_simp; with_reducible rfl
                rotate_left
                · simp only [Act.put, zA, zB, zC, i64_w, i32_w]; rfl
                refine done_ (by kernel_rfl) ?_
                have C := HB.out.cl
                simp only [Cl, and_true] at C
                obtain ⟨_, _, _, _, _, _, _, _, _, _, _, _⟩ := C
                go_wp2_with fail
                go_roundg (3 - j)
                case measure => omega
                case rel => exact ⟨j + 1, q1, true, by omega, by first | rfl | (simp; done) | (simp [*]; done), by first | rfl | (simp; done) | (simp [*]; done), by simp, ⟨⟨keep HI.out.1 (fun c => by cases c) (fun k => (hA.out k).2), keep HI.out.2 (fun _ => rfl) (fun _ => rfl)⟩⟩, HB, HS, HT⟩
            | true =>
              cases hi with
              | false =>
                replace HB := Aside0.mk (HB.out.drew)
                replace HS := Aside0.mk (HS.out.drew)
                replace HT := Aside0.mk (HT.out.drew)
                refine start_ (n := 24) (S := fun w' => w'.cell? ⟨g7, 0, none⟩ = some (.int .i32 z1) ∧ w'.cell? ⟨g7, 1, none⟩ = some (.int .i32 z2)) (ds := []) #[false, false, false, false, false, false, false, false, false, false, false, false, false, false, false, false, false, false, false, false, false, false, false, false] (by kernel_rfl) rfl rfl ⟨HB.out.c0 2 rfl, HB.out.c1 2 rfl⟩ (fun hHeld => ?_)
                generalize w1.drew = wv9 at HB HS HT hHeld ⊢
                refine pure_ (i := 0) (N := some 85) (v := ?_) (a' := ?_) (bl 24 1) rfl rfl (by kernel_rfl) (fun _ _ _ h => h) (Or.inl ⟨by rfl, ?_⟩) ?_ ?_
                rotate_left
                · intro w'; go_simp; with_reducible rfl
                rotate_left
                · simp only [Act.put, zA, zB, zC, i64_w, i32_w]; rfl
                refine pure_ (i := 1) (N := some 86) (v := ?_) (a' := ?_) (bl 24 3) rfl rfl (by kernel_rfl) (fun _ _ _ h => h) (Or.inl ⟨by rfl, ?_⟩) ?_ ?_
                rotate_left
                · intro w'; go_simp; with_reducible rfl
                rotate_left
                · simp only [Act.put, zA, zB, zC, i64_w, i32_w]; rfl
                refine pure_ (i := 2) (N := some 87) (v := undef) (a' := ?_) (bl 24 7) rfl rfl (by kernel_rfl) (fun _ _ _ h => h) (Or.inr ⟨by rfl, rfl⟩) ?_ ?_
                rotate_left
                · simp only [Act.put, zA, zB, zC, i64_w, i32_w]; rfl
                refine pure_ (i := 3) (N := some 88) (v := undef) (a' := ?_) (bl 24 15) rfl rfl (by kernel_rfl) (fun _ _ _ h => h) (Or.inr ⟨by rfl, rfl⟩) ?_ ?_
                rotate_left
                · simp only [Act.put, zA, zB, zC, i64_w, i32_w]; rfl
                refine pure_ (i := 4) (N := some 89) (v := undef) (a' := ?_) (bl 24 31) rfl rfl (by kernel_rfl) (fun _ _ _ h => h) (Or.inr ⟨by rfl, rfl⟩) ?_ ?_
                rotate_left
                · simp only [Act.put, zA, zB, zC, i64_w, i32_w]; rfl
                refine pure_ (i := 5) (N := some 90) (v := undef) (a' := ?_) (bl 24 63) rfl rfl (by kernel_rfl) (fun _ _ _ h => h) (Or.inr ⟨by rfl, rfl⟩) ?_ ?_
                rotate_left
                · simp only [Act.put, zA, zB, zC, i64_w, i32_w]; rfl
                refine pure_ (i := 6) (N := some 91) (v := undef) (a' := ?_) (bl 24 127) rfl rfl (by kernel_rfl) (fun _ _ _ h => h) (Or.inr ⟨by rfl, rfl⟩) ?_ ?_
                rotate_left
                · simp only [Act.put, zA, zB, zC, i64_w, i32_w]; rfl
                refine pure_ (i := 7) (N := some 92) (v := undef) (a' := ?_) (bl 24 255) rfl rfl (by kernel_rfl) (fun _ _ _ h => h) (Or.inr ⟨by rfl, rfl⟩) ?_ ?_
                rotate_left
                · simp only [Act.put, zA, zB, zC, i64_w, i32_w]; rfl
                refine pure_ (i := 8) (N := some 93) (v := undef) (a' := ?_) (bl 24 511) rfl rfl (by kernel_rfl) (fun _ _ _ h => h) (Or.inr ⟨by rfl, rfl⟩) ?_ ?_
                rotate_left
                · simp only [Act.put, zA, zB, zC, i64_w, i32_w]; rfl
                refine pure_ (i := 9) (N := some 94) (v := undef) (a' := ?_) (bl 24 1023) rfl rfl (by kernel_rfl) (fun _ _ _ h => h) (Or.inr ⟨by rfl, rfl⟩) ?_ ?_
                rotate_left
                · simp only [Act.put, zA, zB, zC, i64_w, i32_w]; rfl
                refine pure_ (i := 10) (N := some 95) (v := ?_) (a' := ?_) (bl 24 2047) rfl rfl (by kernel_rfl) (fun _ _ _ h => h) (Or.inl ⟨by rfl, ?_⟩) ?_ ?_
                rotate_left
                · intro w'; go_simp; with_reducible rfl
                rotate_left
                · simp only [Act.put, zA, zB, zC, i64_w, i32_w]; rfl
                refine pure_ (i := 11) (N := some 96) (v := ?_) (a' := ?_) (bl 24 4095) rfl rfl (by kernel_rfl) (fun _ _ _ h => h) (Or.inl ⟨by rfl, ?_⟩) ?_ ?_
                rotate_left
                · intro w'; go_simp; with_reducible rfl
                rotate_left
                · simp only [Act.put, zA, zB, zC, i64_w, i32_w]; rfl
                refine pure_ (i := 12) (N := some 97) (v := ?_) (a' := ?_) (bl 24 8191) rfl rfl (by kernel_rfl) (fun _ _ _ h => h) (Or.inl ⟨by rfl, ?_⟩) ?_ ?_
                rotate_left
                · intro w'; go_simp; with_reducible rfl
                rotate_left
                · simp only [Act.put, zA, zB, zC, i64_w, i32_w]; rfl
                refine pure_ (i := 13) (N := some 98) (v := ?_) (a' := ?_) (bl 24 16383) rfl rfl (by kernel_rfl) (fun _ _ _ h => h) (Or.inl ⟨by rfl, ?_⟩) ?_ ?_
                rotate_left
                · intro w'; go_simp; with_reducible rfl
                rotate_left
                · simp only [Act.put, zA, zB, zC, i64_w, i32_w]; rfl
                refine pure_ (i := 14) (N := some 99) (v := ?_) (a' := ?_) (bl 24 32767) rfl rfl (by kernel_rfl) (fun _ _ _ h => h) (Or.inl ⟨by rfl, ?_⟩) ?_ ?_
                rotate_left
                · intro w'; go_simp; with_reducible rfl
                rotate_left
                · simp only [Act.put, zA, zB, zC, i64_w, i32_w]; rfl
                refine pure_ (i := 15) (N := some 100) (v := ?_) (a' := ?_) (bl 24 65535) rfl rfl (by kernel_rfl) (fun _ _ _ h => h) (Or.inl ⟨by rfl, ?_⟩) ?_ ?_
                rotate_left
                · intro w'; go_simp; with_reducible rfl
                rotate_left
                · simp only [Act.put, zA, zB, zC, i64_w, i32_w]; rfl
                refine pure_ (i := 16) (N := some 101) (v := ?_) (a' := ?_) (bl 24 131071) rfl rfl (by kernel_rfl) (fun _ _ _ h => h) (Or.inl ⟨by rfl, ?_⟩) ?_ ?_
                rotate_left
                · intro w'; go_simp; with_reducible rfl
                rotate_left
                · simp only [Act.put, zA, zB, zC, i64_w, i32_w]; rfl
                refine pure_ (i := 17) (N := some 102) (v := ?_) (a' := ?_) (bl 24 262143) rfl rfl (by kernel_rfl) (fun _ _ _ h => h) (Or.inl ⟨by rfl, ?_⟩) ?_ ?_
                rotate_left
                · intro w'; go_simp; with_reducible rfl
                rotate_left
                · simp only [Act.put, zA, zB, zC, i64_w, i32_w]; rfl
                refine pure_ (i := 22) (N := some 8) (v := ?_) (a' := ?_) (bl 24 4456447) rfl rfl (by kernel_rfl) (fun _ _ _ h => h) (Or.inl ⟨by rfl, ?_⟩) ?_ ?_
                rotate_left
                · intro w'; go_simp; with_reducible rfl
                rotate_left
                · simp only [Act.put, zA, zB, zC, i64_w, i32_w]; rfl
                refine take_ (i := 18) (N := some 103) (v := ?_) (a' := ?_) (bl 24 4718591) rfl rfl (by kernel_rfl) (fun _ _ _ h => h) (Or.inl ⟨by rfl, ?_⟩) hHeld ?_ ?_
                rotate_left
                · rintro w' ⟨s0, s1⟩; go_simp; with_reducible rfl
                rotate_left
                · simp only [Act.put, zA, zB, zC, i64_w, i32_w]; rfl
                refine pure_ (i := 19) (N := some 104) (v := ?_) (a' := ?_) (bl 24 5242879) rfl rfl (by kernel_rfl) (fun _ _ _ h => h) (Or.inl ⟨by rfl, ?_⟩) ?_ ?_
                rotate_left
                · intro w'; go_simp; with_reducible rfl
                rotate_left
                · simp only [Act.put, zA, zB, zC, i64_w, i32_w]; rfl
                refine pure_ (i := 20) (N := some 105) (v := ?_) (a' := ?_) (bl 24 6291455) rfl rfl (by kernel_rfl) (fun _ _ _ h => h) (Or.inl ⟨by rfl, ?_⟩) ?_ ?_
                rotate_left
                · intro w'; go_simp; with_reducible rfl
                rotate_left
                · simp only [Act.put, zA, zB, zC, i64_w, i32_w]; rfl
                refine pure_ (i := 21) (N := some 106) (v := ?_) (a' := ?_) (bl 24 8388607) rfl rfl (by kernel_rfl) (fun _ _ _ h => h) (Or.inl ⟨by rfl, ?_⟩) ?_ ?_
                rotate_left
                · intro w'; go_simp; with_reducible rfl
                rotate_left
                · simp only [Act.put, zA, zB, zC, i64_w, i32_w]; rfl
                refine pure_ (i := 23) (N := some 9) (v := ?_) (a' := ?_) (bl 24 16777215) rfl rfl (by kernel_rfl) (fun _ _ _ h => h) (Or.inl ⟨by rfl, ?_⟩) ?_ ?_
                rotate_left
                · intro w'; go_simp; with_reducible rfl
                rotate_left
                · simp only [Act.put, zA, zB, zC, i64_w, i32_w]; rfl
                refine done_ (by kernel_rfl) ?_
                have C := HB.out.cl
                simp only [Cl, and_true] at C
                obtain ⟨_, _, _, _, _, _, _, _, _, _, _, _⟩ := C
                go_wp2_with fail
                go_roundg (3 - j)
                case measure => omega
                case rel => exact ⟨j + 1, true, q2, by omega, by first | rfl | (simp; done) | (simp [*]; done), by first | rfl | (simp; done) | (simp [*]; done), by simp, ⟨⟨keep HI.out.1 (fun _ => rfl) (fun _ => rfl), keep HI.out.2 (fun c => by cases c) (fun k => (hB.out k).2)⟩⟩, HB, HS, HT⟩
              | true =>
                replace HB := Aside0.mk (HB.out.drew)
                replace HS := Aside0.mk (HS.out.drew)
                replace HT := Aside0.mk (HT.out.drew)
                refine start_ (n := 24) (S := fun w' => True) (ds := []) #[false, false, false, false, false, false, false, false, false, false, false, false, false, false, false, false, false, false, false, false, false, false, false, false] (by kernel_rfl) rfl rfl trivial (fun hHeld => ?_)
                generalize w1.drew = wv9 at HB HS HT hHeld ⊢
                refine pure_ (i := 0) (N := some 85) (v := ?_) (a' := ?_) (bl 24 1) rfl rfl (by kernel_rfl) (fun _ _ _ h => h) (Or.inl ⟨by rfl, ?_⟩) ?_ ?_
                rotate_left
                · intro w'; go_simp; with_reducible rfl
                rotate_left
                · simp only [Act.put, zA, zB, zC, i64_w, i32_w]; rfl
                refine pure_ (i := 1) (N := some 86) (v := ?_) (a' := ?_) (bl 24 3) rfl rfl (by kernel_rfl) (fun _ _ _ h => h) (Or.inl ⟨by rfl, ?_⟩) ?_ ?_
                rotate_left
                · intro w'; go_simp; with_reducible rfl
                rotate_left
                · simp only [Act.put, zA, zB, zC, i64_w, i32_w]; rfl
                refine pure_ (i := 2) (N := some 87) (v := undef) (a' := ?_) (bl 24 7) rfl rfl (by kernel_rfl) (fun _ _ _ h => h) (Or.inr ⟨by rfl, rfl⟩) ?_ ?_
                rotate_left
                · simp only [Act.put, zA, zB, zC, i64_w, i32_w]; rfl
                refine pure_ (i := 3) (N := some 88) (v := undef) (a' := ?_) (bl 24 15) rfl rfl (by kernel_rfl) (fun _ _ _ h => h) (Or.inr ⟨by rfl, rfl⟩) ?_ ?_
                rotate_left
                · simp only [Act.put, zA, zB, zC, i64_w, i32_w]; rfl
                refine pure_ (i := 4) (N := some 89) (v := undef) (a' := ?_) (bl 24 31) rfl rfl (by kernel_rfl) (fun _ _ _ h => h) (Or.inr ⟨by rfl, rfl⟩) ?_ ?_
                rotate_left
                · simp only [Act.put, zA, zB, zC, i64_w, i32_w]; rfl
                refine pure_ (i := 5) (N := some 90) (v := undef) (a' := ?_) (bl 24 63) rfl rfl (by kernel_rfl) (fun _ _ _ h => h) (Or.inr ⟨by rfl, rfl⟩) ?_ ?_
                rotate_left
                · simp only [Act.put, zA, zB, zC, i64_w, i32_w]; rfl
                refine pure_ (i := 6) (N := some 91) (v := undef) (a' := ?_) (bl 24 127) rfl rfl (by kernel_rfl) (fun _ _ _ h => h) (Or.inr ⟨by rfl, rfl⟩) ?_ ?_
                rotate_left
                · simp only [Act.put, zA, zB, zC, i64_w, i32_w]; rfl
                refine pure_ (i := 7) (N := some 92) (v := undef) (a' := ?_) (bl 24 255) rfl rfl (by kernel_rfl) (fun _ _ _ h => h) (Or.inr ⟨by rfl, rfl⟩) ?_ ?_
                rotate_left
                · simp only [Act.put, zA, zB, zC, i64_w, i32_w]; rfl
                refine pure_ (i := 8) (N := some 93) (v := undef) (a' := ?_) (bl 24 511) rfl rfl (by kernel_rfl) (fun _ _ _ h => h) (Or.inr ⟨by rfl, rfl⟩) ?_ ?_
                rotate_left
                · simp only [Act.put, zA, zB, zC, i64_w, i32_w]; rfl
                refine pure_ (i := 9) (N := some 94) (v := undef) (a' := ?_) (bl 24 1023) rfl rfl (by kernel_rfl) (fun _ _ _ h => h) (Or.inr ⟨by rfl, rfl⟩) ?_ ?_
                rotate_left
                · simp only [Act.put, zA, zB, zC, i64_w, i32_w]; rfl
                refine pure_ (i := 10) (N := some 95) (v := ?_) (a' := ?_) (bl 24 2047) rfl rfl (by kernel_rfl) (fun _ _ _ h => h) (Or.inl ⟨by rfl, ?_⟩) ?_ ?_
                rotate_left
                · intro w'; go_simp; with_reducible rfl
                rotate_left
                · simp only [Act.put, zA, zB, zC, i64_w, i32_w]; rfl
                refine pure_ (i := 11) (N := some 96) (v := ?_) (a' := ?_) (bl 24 4095) rfl rfl (by kernel_rfl) (fun _ _ _ h => h) (Or.inl ⟨by rfl, ?_⟩) ?_ ?_
                rotate_left
                · intro w'; go_simp; with_reducible rfl
                rotate_left
                · simp only [Act.put, zA, zB, zC, i64_w, i32_w]; rfl
                refine pure_ (i := 12) (N := some 97) (v := ?_) (a' := ?_) (bl 24 8191) rfl rfl (by kernel_rfl) (fun _ _ _ h => h) (Or.inl ⟨by rfl, ?_⟩) ?_ ?_
                rotate_left
                · intro w'; go_simp; with_reducible rfl
                rotate_left
                · simp only [Act.put, zA, zB, zC, i64_w, i32_w]; rfl
                refine pure_ (i := 13) (N := some 98) (v := undef) (a' := ?_) (bl 24 16383) rfl rfl (by kernel_rfl) (fun _ _ _ h => h) (Or.inr ⟨by rfl, rfl⟩) ?_ ?_
                rotate_left
                · simp only [Act.put, zA, zB, zC, i64_w, i32_w]; rfl
                refine pure_ (i := 14) (N := some 99) (v := undef) (a' := ?_) (bl 24 32767) rfl rfl (by kernel_rfl) (fun _ _ _ h => h) (Or.inr ⟨by rfl, rfl⟩) ?_ ?_
                rotate_left
                · simp only [Act.put, zA, zB, zC, i64_w, i32_w]; rfl
                refine pure_ (i := 15) (N := some 100) (v := undef) (a' := ?_) (bl 24 65535) rfl rfl (by kernel_rfl) (fun _ _ _ h => h) (Or.inr ⟨by rfl, rfl⟩) ?_ ?_
                rotate_left
                · simp only [Act.put, zA, zB, zC, i64_w, i32_w]; rfl
                refine pure_ (i := 16) (N := some 101) (v := undef) (a' := ?_) (bl 24 131071) rfl rfl (by kernel_rfl) (fun _ _ _ h => h) (Or.inr ⟨by rfl, rfl⟩) ?_ ?_
                rotate_left
                · simp only [Act.put, zA, zB, zC, i64_w, i32_w]; rfl
                refine pure_ (i := 17) (N := some 102) (v := undef) (a' := ?_) (bl 24 262143) rfl rfl (by kernel_rfl) (fun _ _ _ h => h) (Or.inr ⟨by rfl, rfl⟩) ?_ ?_
                rotate_left
                · simp only [Act.put, zA, zB, zC, i64_w, i32_w]; rfl
                refine pure_ (i := 18) (N := some 103) (v := undef) (a' := ?_) (bl 24 524287) rfl rfl (by kernel_rfl) (fun _ _ _ h => h) (Or.inr ⟨by rfl, rfl⟩) ?_ ?_
                rotate_left
                · simp only [Act.put, zA, zB, zC, i64_w, i32_w]; rfl
                refine pure_ (i := 19) (N := some 104) (v := undef) (a' := ?_) (bl 24 1048575) rfl rfl (by kernel_rfl) (fun _ _ _ h => h) (Or.inr ⟨by rfl, rfl⟩) ?_ ?_
                rotate_left
                · simp only [Act.put, zA, zB, zC, i64_w, i32_w]; rfl
                refine pure_ (i := 20) (N := some 105) (v := undef) (a' := ?_) (bl 24 2097151) rfl rfl (by kernel_rfl) (fun _ _ _ h => h) (Or.inr ⟨by rfl, rfl⟩) ?_ ?_
                rotate_left
                · simp only [Act.put, zA, zB, zC, i64_w, i32_w]; rfl
                refine pure_ (i := 21) (N := some 106) (v := ?_) (a' := ?_) (bl 24 4194303) rfl rfl (by kernel_rfl) (fun _ _ _ h => h) (Or.inl ⟨by rfl, ?_⟩) ?_ ?_
                rotate_left
                · intro w'; go_simp; with_reducible rfl
                rotate_left
                · simp only [Act.put, zA, zB, zC, i64_w, i32_w]; rfl
                refine pure_ (i := 22) (N := some 8) (v := ?_) (a' := ?_) (bl 24 8388607) rfl rfl (by kernel_rfl) (fun _ _ _ h => h) (Or.inl ⟨by rfl, ?_⟩) ?_ ?_
                rotate_left
                · intro w'; go_simp; with_reducible rfl
                rotate_left
                · simp only [Act.put, zA, zB, zC, i64_w, i32_w]; rfl
                refine pure_ (i := 23) (N := some 9) (v := ?_) (a' := ?_) (bl 24 16777215) rfl rfl (by kernel_rfl) (fun _ _ _ h => h) (Or.inl ⟨by rfl, ?_⟩) ?_ ?_
                rotate_left
                · intro w'; go_simp; with_reducible rfl
                rotate_left
                · simp only [Act.put, zA, zB, zC, i64_w, i32_w]; rfl
                refine done_ (by kernel_rfl) ?_
                have C := HB.out.cl
                simp only [Cl, and_true] at C
                obtain ⟨_, _, _, _, _, _, _, _, _, _, _, _⟩ := C
                go_wp2_with fail
                go_roundg (3 - j)
                case measure => omega
                case rel => exact ⟨j + 1, true, true, by omega, by first | rfl | (simp; done) | (simp [*]; done), by first | rfl | (simp; done) | (simp [*]; done), by simp, ⟨⟨keep HI.out.1 (fun _ => rfl) (fun _ => rfl), keep HI.out.2 (fun _ => rfl) (fun _ => rfl)⟩⟩, HB, HS, HT⟩
          · skip
            have he1 : (e == 0) = false := by simpa using he
            have HE := Aside0.mk he
            clear he
            cases lo with
            | false =>
              cases hi with
              | false =>
                replace HB := Aside0.mk (HB.out.drew)
                replace HS := Aside0.mk (HS.out.drew)
                replace HT := Aside0.mk (HT.out.drew)
                refine start_ (n := 24) (S := fun w' => True) (ds := []) #[false, false, false, false, false, false, false, false, false, false, false, false, false, false, false, false, false, false, false, false, false, false, false, false] (by kernel_rfl) rfl rfl trivial (fun hHeld => ?_)
                generalize w1.drew = wv9 at HB HS HT hHeld ⊢
                refine pure_ (i := 0) (N := some 85) (v := ?_) (a' := ?_) (bl 24 1) rfl rfl (by kernel_rfl) (fun _ _ _ h => h) (Or.inl ⟨by rfl, ?_⟩) ?_ ?_
                rotate_left
                · intro w'; go_simp; with_reducible rfl
                rotate_left
                · simp only [Act.put, zA, zB, zC, i64_w, i32_w]; rfl
                refine pure_ (i := 1) (N := some 86) (v := ?_) (a' := ?_) (bl 24 3) rfl rfl (by kernel_rfl) (fun _ _ _ h => h) (Or.inl ⟨by rfl, ?_⟩) ?_ ?_
                rotate_left
                · intro w'; go_simp; with_reducible rfl
                rotate_left
                · simp only [Act.put, zA, zB, zC, i64_w, i32_w]; rfl
                refine pure_ (i := 2) (N := some 87) (v := ?_) (a' := ?_) (bl 24 7) rfl rfl (by kernel_rfl) (fun _ _ _ h => h) (Or.inl ⟨by rfl, ?_⟩) ?_ ?_
                rotate_left
                · intro w'; go_simp; with_reducible rfl
                rotate_left
                · simp only [Act.put, zA, zB, zC, i64_w, i32_w]; rfl
                refine pure_ (i := 3) (N := some 88) (v := ?_) (a' := ?_) (bl 24 15) rfl rfl (by kernel_rfl) (fun _ _ _ h => h) (Or.inl ⟨by rfl, ?_⟩) ?_ ?_
                rotate_left
                · intro w'; go_simp; with_reducible rfl
                rotate_left
                · simp only [Act.put, zA, zB, zC, i64_w, i32_w]; rfl
                refine pure_ (i := 4) (N := some 89) (v := ?_) (a' := ?_) (bl 24 31) rfl rfl (by kernel_rfl) (fun _ _ _ h => h) (Or.inl ⟨by rfl, ?_⟩) ?_ ?_
                rotate_left
                · intro w'; go_simp; with_reducible rfl
                rotate_left
                · simp only [Act.put, zA, zB, zC, i64_w, i32_w]; rfl
                refine pure_ (i := 5) (N := some 90) (v := undef) (a' := ?_) (bl 24 63) rfl rfl (by kernel_rfl) (fun _ _ _ h => h) (Or.inr ⟨by rfl, rfl⟩) ?_ ?_
                rotate_left
                · simp only [Act.put, zA, zB, zC, i64_w, i32_w]; rfl
                refine pure_ (i := 6) (N := some 91) (v := undef) (a' := ?_) (bl 24 127) rfl rfl (by kernel_rfl) (fun _ _ _ h => h) (Or.inr ⟨by rfl, rfl⟩) ?_ ?_
                rotate_left
                · simp only [Act.put, zA, zB, zC, i64_w, i32_w]; rfl
                refine pure_ (i := 7) (N := some 92) (v := undef) (a' := ?_) (bl 24 255) rfl rfl (by kernel_rfl) (fun _ _ _ h => h) (Or.inr ⟨by rfl, rfl⟩) ?_ ?_
                rotate_left
                · simp only [Act.put, zA, zB, zC, i64_w, i32_w]; rfl
                refine pure_ (i := 8) (N := some 93) (v := undef) (a' := ?_) (bl 24 511) rfl rfl (by kernel_rfl) (fun _ _ _ h => h) (Or.inr ⟨by rfl, rfl⟩) ?_ ?_
                rotate_left
                · simp only [Act.put, zA, zB, zC, i64_w, i32_w]; rfl
                refine pure_ (i := 9) (N := some 94) (v := ?_) (a' := ?_) (bl 24 1023) rfl rfl (by kernel_rfl) (fun _ _ _ h => h) (Or.inl ⟨by rfl, ?_⟩) ?_ ?_
                rotate_left
                · intro w'; go_simp; with_reducible rfl
                rotate_left
                · simp only [Act.put, zA, zB, zC, i64_w, i32_w]; rfl
                refine pure_ (i := 10) (N := some 95) (v := ?_) (a' := ?_) (bl 24 2047) rfl rfl (by kernel_rfl) (fun _ _ _ h => h) (Or.inl ⟨by rfl, ?_⟩) ?_ ?_
                rotate_left
                · intro w'; go_simp; with_reducible rfl
                rotate_left
                · simp only [Act.put, zA, zB, zC, i64_w, i32_w]; rfl
                refine pure_ (i := 11) (N := some 96) (v := ?_) (a' := ?_) (bl 24 4095) rfl rfl (by kernel_rfl) (fun _ _ _ h => h) (Or.inl ⟨by rfl, ?_⟩) ?_ ?_
                rotate_left
                · intro w'; go_simp; with_reducible rfl
                rotate_left
                · simp only [Act.put, zA, zB, zC, i64_w, i32_w]; rfl
                refine pure_ (i := 12) (N := some 97) (v := ?_) (a' := ?_) (bl 24 8191) rfl rfl (by kernel_rfl) (fun _ _ _ h => h) (Or.inl ⟨by rfl, ?_⟩) ?_ ?_
                rotate_left
                · intro w'; go_simp; with_reducible rfl
                rotate_left
                · simp only [Act.put, zA, zB, zC, i64_w, i32_w]; rfl
                refine pure_ (i := 13) (N := some 98) (v := ?_) (a' := ?_) (bl 24 16383) rfl rfl (by kernel_rfl) (fun _ _ _ h => h) (Or.inl ⟨by rfl, ?_⟩) ?_ ?_
                rotate_left
                · intro w'; go_simp; with_reducible rfl
                rotate_left
                · simp only [Act.put, zA, zB, zC, i64_w, i32_w]; rfl
                refine pure_ (i := 14) (N := some 99) (v := ?_) (a' := ?_) (bl 24 32767) rfl rfl (by kernel_rfl) (fun _ _ _ h => h) (Or.inl ⟨by rfl, ?_⟩) ?_ ?_
                rotate_left
                · intro w'; go_simp; with_reducible rfl
                rotate_left
                · simp only [Act.put, zA, zB, zC, i64_w, i32_w]; rfl
                refine pure_ (i := 15) (N := some 100) (v := ?_) (a' := ?_) (bl 24 65535) rfl rfl (by kernel_rfl) (fun _ _ _ h => h) (Or.inl ⟨by rfl, ?_⟩) ?_ ?_
                rotate_left
                · intro w'; go_simp; with_reducible rfl
                rotate_left
                · simp only [Act.put, zA, zB, zC, i64_w, i32_w]; rfl
                refine pure_ (i := 16) (N := some 101) (v := undef) (a' := ?_) (bl 24 131071) rfl rfl (by kernel_rfl) (fun _ _ _ h => h) (Or.inr ⟨by rfl, rfl⟩) ?_ ?_
                rotate_left
                · simp only [Act.put, zA, zB, zC, i64_w, i32_w]; rfl
                refine pure_ (i := 17) (N := some 102) (v := undef) (a' := ?_) (bl 24 262143) rfl rfl (by kernel_rfl) (fun _ _ _ h => h) (Or.inr ⟨by rfl, rfl⟩) ?_ ?_
                rotate_left
                · simp only [Act.put, zA, zB, zC, i64_w, i32_w]; rfl
                refine pure_ (i := 18) (N := some 103) (v := undef) (a' := ?_) (bl 24 524287) rfl rfl (by kernel_rfl) (fun _ _ _ h => h) (Or.inr ⟨by rfl, rfl⟩) ?_ ?_
                rotate_left
                · simp only [Act.put, zA, zB, zC, i64_w, i32_w]; rfl
                refine pure_ (i := 19) (N := some 104) (v := undef) (a' := ?_) (bl 24 1048575) rfl rfl (by kernel_rfl) (fun _ _ _ h => h) (Or.inr ⟨by rfl, rfl⟩) ?_ ?_
                rotate_left
                · simp only [Act.put, zA, zB, zC, i64_w, i32_w]; rfl
                refine pure_ (i := 20) (N := some 105) (v := ?_) (a' := ?_) (bl 24 2097151) rfl rfl (by kernel_rfl) (fun _ _ _ h => h) (Or.inl ⟨by rfl, ?_⟩) ?_ ?_
                rotate_left
                · intro w'; go_simp; with_reducible rfl
                rotate_left
                · simp only [Act.put, zA, zB, zC, i64_w, i32_w]; rfl
                refine pure_ (i := 21) (N := some 106) (v := ?_) (a' := ?_) (bl 24 4194303) rfl rfl (by kernel_rfl) (fun _ _ _ h => h) (Or.inl ⟨by rfl, ?_⟩) ?_ ?_
                rotate_left
                · intro w'; go_simp; with_reducible rfl
                rotate_left
                · simp only [Act.put, zA, zB, zC, i64_w, i32_w]; rfl
                refine pure_ (i := 22) (N := some 8) (v := ?_) (a' := ?_) (bl 24 8388607) rfl rfl (by kernel_rfl) (fun _ _ _ h => h) (Or.inl ⟨by rfl, ?_⟩) ?_ ?_
                rotate_left
                · intro w'; go_simp; with_reducible rfl
                rotate_left
                · simp only [Act.put, zA, zB, zC, i64_w, i32_w]; rfl
                refine pure_ (i := 23) (N := some 9) (v := ?_) (a' := ?_) (bl 24 16777215) rfl rfl (by kernel_rfl) (fun _ _ _ h => h) (Or.inl ⟨by rfl, ?_⟩) ?_ ?_
                rotate_left
                · intro w'; go_simp; with_reducible rfl
                rotate_left
                · simp only [Act.put, zA, zB, zC, i64_w, i32_w]; rfl
                refine done_ (by kernel_rfl) ?_
                have C := HB.out.cl
                simp only [Cl, and_true] at C
                obtain ⟨_, _, _, _, _, _, _, _, _, _, _, _⟩ := C
                go_wp2_with fail
                go_roundg (3 - j)
                case measure => omega
                case rel => exact ⟨j + 1, false, false, by omega, by first | rfl | (simp; done) | (simp [*]; done), by first | rfl | (simp; done) | (simp [*]; done), by simp, ⟨⟨keep HI.out.1 (fun c => by cases c) (fun k => absurd (hA.out k).1 HE.out), keep HI.out.2 (fun c => by cases c) (fun k => absurd (hB.out k).1 HE.out)⟩⟩, HB, HS, HT⟩
              | true =>
                replace HB := Aside0.mk (HB.out.drew)
                replace HS := Aside0.mk (HS.out.drew)
                replace HT := Aside0.mk (HT.out.drew)
                refine start_ (n := 24) (S := fun w' => True) (ds := []) #[false, false, false, false, false, false, false, false, false, false, false, false, false, false, false, false, false, false, false, false, false, false, false, false] (by kernel_rfl) rfl rfl trivial (fun hHeld => ?_)
                generalize w1.drew = wv9 at HB HS HT hHeld ⊢
                refine pure_ (i := 0) (N := some 85) (v := ?_) (a' := ?_) (bl 24 1) rfl rfl (by kernel_rfl) (fun _ _ _ h => h) (Or.inl ⟨by rfl, ?_⟩) ?_ ?_
                rotate_left
                · intro w'; go_simp; with_reducible rfl
                rotate_left
                · simp only [Act.put, zA, zB, zC, i64_w, i32_w]; rfl
                refine pure_ (i := 1) (N := some 86) (v := ?_) (a' := ?_) (bl 24 3) rfl rfl (by kernel_rfl) (fun _ _ _ h => h) (Or.inl ⟨by rfl, ?_⟩) ?_ ?_
                rotate_left
                · intro w'; go_simp; with_reducible rfl
                rotate_left
                · simp only [Act.put, zA, zB, zC, i64_w, i32_w]; rfl
                refine pure_ (i := 2) (N := some 87) (v := ?_) (a' := ?_) (bl 24 7) rfl rfl (by kernel_rfl) (fun _ _ _ h => h) (Or.inl ⟨by rfl, ?_⟩) ?_ ?_
                rotate_left
                · intro w'; go_simp; with_reducible rfl
                rotate_left
                · simp only [Act.put, zA, zB, zC, i64_w, i32_w]; rfl
                refine pure_ (i := 3) (N := some 88) (v := ?_) (a' := ?_) (bl 24 15) rfl rfl (by kernel_rfl) (fun _ _ _ h => h) (Or.inl ⟨by rfl, ?_⟩) ?_ ?_
                rotate_left
                · intro w'; go_simp; with_reducible rfl
                rotate_left
                · simp only [Act.put, zA, zB, zC, i64_w, i32_w]; rfl
                refine pure_ (i := 4) (N := some 89) (v := ?_) (a' := ?_) (bl 24 31) rfl rfl (by kernel_rfl) (fun _ _ _ h => h) (Or.inl ⟨by rfl, ?_⟩) ?_ ?_
                rotate_left
                · intro w'; go_simp; with_reducible rfl
                rotate_left
                · simp only [Act.put, zA, zB, zC, i64_w, i32_w]; rfl
                refine pure_ (i := 5) (N := some 90) (v := undef) (a' := ?_) (bl 24 63) rfl rfl (by kernel_rfl) (fun _ _ _ h => h) (Or.inr ⟨by rfl, rfl⟩) ?_ ?_
                rotate_left
                · simp only [Act.put, zA, zB, zC, i64_w, i32_w]; rfl
                refine pure_ (i := 6) (N := some 91) (v := undef) (a' := ?_) (bl 24 127) rfl rfl (by kernel_rfl) (fun _ _ _ h => h) (Or.inr ⟨by rfl, rfl⟩) ?_ ?_
                rotate_left
                · simp only [Act.put, zA, zB, zC, i64_w, i32_w]; rfl
                refine pure_ (i := 7) (N := some 92) (v := undef) (a' := ?_) (bl 24 255) rfl rfl (by kernel_rfl) (fun _ _ _ h => h) (Or.inr ⟨by rfl, rfl⟩) ?_ ?_
                rotate_left
                · simp only [Act.put, zA, zB, zC, i64_w, i32_w]; rfl
                refine pure_ (i := 8) (N := some 93) (v := undef) (a' := ?_) (bl 24 511) rfl rfl (by kernel_rfl) (fun _ _ _ h => h) (Or.inr ⟨by rfl, rfl⟩) ?_ ?_
                rotate_left
                · simp only [Act.put, zA, zB, zC, i64_w, i32_w]; rfl
                refine pure_ (i := 9) (N := some 94) (v := ?_) (a' := ?_) (bl 24 1023) rfl rfl (by kernel_rfl) (fun _ _ _ h => h) (Or.inl ⟨by rfl, ?_⟩) ?_ ?_
                rotate_left
                · intro w'; go_simp; with_reducible rfl
                rotate_left
                · simp only [Act.put, zA, zB, zC, i64_w, i32_w]; rfl
                refine pure_ (i := 10) (N := some 95) (v := ?_) (a' := ?_) (bl 24 2047) rfl rfl (by kernel_rfl) (fun _ _ _ h => h) (Or.inl ⟨by rfl, ?_⟩) ?_ ?_
                rotate_left
                · intro w'; go_simp; with_reducible rfl
                rotate_left
                · simp only [Act.put, zA, zB, zC, i64_w, i32_w]; rfl
                refine pure_ (i := 11) (N := some 96) (v := ?_) (a' := ?_) (bl 24 4095) rfl rfl (by kernel_rfl) (fun _ _ _ h => h) (Or.inl ⟨by rfl, ?_⟩) ?_ ?_
                rotate_left
                · intro w'; go_simp; with_reducible rfl
                rotate_left
                · simp only [Act.put, zA, zB, zC, i64_w, i32_w]; rfl
                refine pure_ (i := 12) (N := some 97) (v := ?_) (a' := ?_) (bl 24 8191) rfl rfl (by kernel_rfl) (fun _ _ _ h => h) (Or.inl ⟨by rfl, ?_⟩) ?_ ?_
                rotate_left
                · intro w'; go_simp; with_reducible rfl
                rotate_left
                · simp only [Act.put, zA, zB, zC, i64_w, i32_w]; rfl
                refine pure_ (i := 13) (N := some 98) (v := undef) (a' := ?_) (bl 24 16383) rfl rfl (by kernel_rfl) (fun _ _ _ h => h) (Or.inr ⟨by rfl, rfl⟩) ?_ ?_
                rotate_left
                · simp only [Act.put, zA, zB, zC, i64_w, i32_w]; rfl
                refine pure_ (i := 14) (N := some 99) (v := undef) (a' := ?_) (bl 24 32767) rfl rfl (by kernel_rfl) (fun _ _ _ h => h) (Or.inr ⟨by rfl, rfl⟩) ?_ ?_
                rotate_left
                · simp only [Act.put, zA, zB, zC, i64_w, i32_w]; rfl
                refine pure_ (i := 15) (N := some 100) (v := undef) (a' := ?_) (bl 24 65535) rfl rfl (by kernel_rfl) (fun _ _ _ h => h) (Or.inr ⟨by rfl, rfl⟩) ?_ ?_
                rotate_left
                · simp only [Act.put, zA, zB, zC, i64_w, i32_w]; rfl
                refine pure_ (i := 16) (N := some 101) (v := undef) (a' := ?_) (bl 24 131071) rfl rfl (by kernel_rfl) (fun _ _ _ h => h) (Or.inr ⟨by rfl, rfl⟩) ?_ ?_
                rotate_left
                · simp only [Act.put, zA, zB, zC, i64_w, i32_w]; rfl
                refine pure_ (i := 17) (N := some 102) (v := undef) (a' := ?_) (bl 24 262143) rfl rfl (by kernel_rfl) (fun _ _ _ h => h) (Or.inr ⟨by rfl, rfl⟩) ?_ ?_
                rotate_left
                · simp only [Act.put, zA, zB, zC, i64_w, i32_w]; rfl
                refine pure_ (i := 18) (N := some 103) (v := undef) (a' := ?_) (bl 24 524287) rfl rfl (by kernel_rfl) (fun _ _ _ h => h) (Or.inr ⟨by rfl, rfl⟩) ?_ ?_
                rotate_left
                · simp only [Act.put, zA, zB, zC, i64_w, i32_w]; rfl
                refine pure_ (i := 19) (N := some 104) (v := undef) (a' := ?_) (bl 24 1048575) rfl rfl (by kernel_rfl) (fun _ _ _ h => h) (Or.inr ⟨by rfl, rfl⟩) ?_ ?_
                rotate_left
                · simp only [Act.put, zA, zB, zC, i64_w, i32_w]; rfl
                refine pure_ (i := 20) (N := some 105) (v := undef) (a' := ?_) (bl 24 2097151) rfl rfl (by kernel_rfl) (fun _ _ _ h => h) (Or.inr ⟨by rfl, rfl⟩) ?_ ?_
                rotate_left
                · simp only [Act.put, zA, zB, zC, i64_w, i32_w]; rfl
                refine pure_ (i := 21) (N := some 106) (v := ?_) (a' := ?_) (bl 24 4194303) rfl rfl (by kernel_rfl) (fun _ _ _ h => h) (Or.inl ⟨by rfl, ?_⟩) ?_ ?_
                rotate_left
                · intro w'; go_simp; with_reducible rfl
                rotate_left
                · simp only [Act.put, zA, zB, zC, i64_w, i32_w]; rfl
                refine pure_ (i := 22) (N := some 8) (v := ?_) (a' := ?_) (bl 24 8388607) rfl rfl (by kernel_rfl) (fun _ _ _ h => h) (Or.inl ⟨by rfl, ?_⟩) ?_ ?_
                rotate_left
                · intro w'; go_simp; with_reducible rfl
                rotate_left
                · simp only [Act.put, zA, zB, zC, i64_w, i32_w]; rfl
                refine pure_ (i := 23) (N := some 9) (v := ?_) (a' := ?_) (bl 24 16777215) rfl rfl (by kernel_rfl) (fun _ _ _ h => h) (Or.inl ⟨by rfl, ?_⟩) ?_ ?_
                rotate_left
                · intro w'; go_simp; with_reducible rfl
                rotate_left
                · simp only [Act.put, zA, zB, zC, i64_w, i32_w]; rfl
                refine done_ (by kernel_rfl) ?_
                have C := HB.out.cl
                simp only [Cl, and_true] at C
                obtain ⟨_, _, _, _, _, _, _, _, _, _, _, _⟩ := C
                go_wp2_with fail
                go_roundg (3 - j)
                case measure => omega
                case rel => exact ⟨j + 1, false, true, by omega, by first | rfl | (simp; done) | (simp [*]; done), by first | rfl | (simp; done) | (simp [*]; done), by simp, ⟨⟨keep HI.out.1 (fun c => by cases c) (fun k => absurd (hA.out k).1 HE.out), keep HI.out.2 (fun _ => rfl) (fun _ => rfl)⟩⟩, HB, HS, HT⟩
            | true =>
              cases hi with
              | false =>
                replace HB := Aside0.mk (HB.out.drew)
                replace HS := Aside0.mk (HS.out.drew)
                replace HT := Aside0.mk (HT.out.drew)
                refine start_ (n := 24) (S := fun w' => True) (ds := []) #[false, false, false, false, false, false, false, false, false, false, false, false, false, false, false, false, false, false, false, false, false, false, false, false] (by kernel_rfl) rfl rfl trivial (fun hHeld => ?_)
                generalize w1.drew = wv9 at HB HS HT hHeld ⊢
                refine pure_ (i := 0) (N := some 85) (v := ?_) (a' := ?_) (bl 24 1) rfl rfl (by kernel_rfl) (fun _ _ _ h => h) (Or.inl ⟨by rfl, ?_⟩) ?_ ?_
                rotate_left
                · intro w'; go_simp; with_reducible rfl
                rotate_left
                · simp only [Act.put, zA, zB, zC, i64_w, i32_w]; rfl
                refine pure_ (i := 1) (N := some 86) (v := ?_) (a' := ?_) (bl 24 3) rfl rfl (by kernel_rfl) (fun _ _ _ h => h) (Or.inl ⟨by rfl, ?_⟩) ?_ ?_
                rotate_left
                · intro w'; go_simp; with_reducible rfl
                rotate_left
                · simp only [Act.put, zA, zB, zC, i64_w, i32_w]; rfl
                refine pure_ (i := 2) (N := some 87) (v := undef) (a' := ?_) (bl 24 7) rfl rfl (by kernel_rfl) (fun _ _ _ h => h) (Or.inr ⟨by rfl, rfl⟩) ?_ ?_
                rotate_left
                · simp only [Act.put, zA, zB, zC, i64_w, i32_w]; rfl
                refine pure_ (i := 3) (N := some 88) (v := undef) (a' := ?_) (bl 24 15) rfl rfl (by kernel_rfl) (fun _ _ _ h => h) (Or.inr ⟨by rfl, rfl⟩) ?_ ?_
                rotate_left
                · simp only [Act.put, zA, zB, zC, i64_w, i32_w]; rfl
                refine pure_ (i := 4) (N := some 89) (v := undef) (a' := ?_) (bl 24 31) rfl rfl (by kernel_rfl) (fun _ _ _ h => h) (Or.inr ⟨by rfl, rfl⟩) ?_ ?_
                rotate_left
                · simp only [Act.put, zA, zB, zC, i64_w, i32_w]; rfl
                refine pure_ (i := 5) (N := some 90) (v := undef) (a' := ?_) (bl 24 63) rfl rfl (by kernel_rfl) (fun _ _ _ h => h) (Or.inr ⟨by rfl, rfl⟩) ?_ ?_
                rotate_left
                · simp only [Act.put, zA, zB, zC, i64_w, i32_w]; rfl
                refine pure_ (i := 6) (N := some 91) (v := undef) (a' := ?_) (bl 24 127) rfl rfl (by kernel_rfl) (fun _ _ _ h => h) (Or.inr ⟨by rfl, rfl⟩) ?_ ?_
                rotate_left
                · simp only [Act.put, zA, zB, zC, i64_w, i32_w]; rfl
                refine pure_ (i := 7) (N := some 92) (v := undef) (a' := ?_) (bl 24 255) rfl rfl (by kernel_rfl) (fun _ _ _ h => h) (Or.inr ⟨by rfl, rfl⟩) ?_ ?_
                rotate_left
                · simp only [Act.put, zA, zB, zC, i64_w, i32_w]; rfl
                refine pure_ (i := 8) (N := some 93) (v := undef) (a' := ?_) (bl 24 511) rfl rfl (by kernel_rfl) (fun _ _ _ h => h) (Or.inr ⟨by rfl, rfl⟩) ?_ ?_
                rotate_left
                · simp only [Act.put, zA, zB, zC, i64_w, i32_w]; rfl
                refine pure_ (i := 9) (N := some 94) (v := undef) (a' := ?_) (bl 24 1023) rfl rfl (by kernel_rfl) (fun _ _ _ h => h) (Or.inr ⟨by rfl, rfl⟩) ?_ ?_
                rotate_left
                · simp only [Act.put, zA, zB, zC, i64_w, i32_w]; rfl
                refine pure_ (i := 10) (N := some 95) (v := ?_) (a' := ?_) (bl 24 2047) rfl rfl (by kernel_rfl) (fun _ _ _ h => h) (Or.inl ⟨by rfl, ?_⟩) ?_ ?_
                rotate_left
                · intro w'; go_simp; with_reducible rfl
                rotate_left
                · simp only [Act.put, zA, zB, zC, i64_w, i32_w]; rfl
                refine pure_ (i := 11) (N := some 96) (v := ?_) (a' := ?_) (bl 24 4095) rfl rfl (by kernel_rfl) (fun _ _ _ h => h) (Or.inl ⟨by rfl, ?_⟩) ?_ ?_
                rotate_left
                · intro w'; go_simp; with_reducible rfl
                rotate_left
                · simp only [Act.put, zA, zB, zC, i64_w, i32_w]; rfl
                refine pure_ (i := 12) (N := some 97) (v := ?_) (a' := ?_) (bl 24 8191) rfl rfl (by kernel_rfl) (fun _ _ _ h => h) (Or.inl ⟨by rfl, ?_⟩) ?_ ?_
                rotate_left
                · intro w'; go_simp; with_reducible rfl
                rotate_left
                · simp only [Act.put, zA, zB, zC, i64_w, i32_w]; rfl
                refine pure_ (i := 13) (N := some 98) (v := ?_) (a' := ?_) (bl 24 16383) rfl rfl (by kernel_rfl) (fun _ _ _ h => h) (Or.inl ⟨by rfl, ?_⟩) ?_ ?_
                rotate_left
                · intro w'; go_simp; with_reducible rfl
                rotate_left
                · simp only [Act.put, zA, zB, zC, i64_w, i32_w]; rfl
                refine pure_ (i := 14) (N := some 99) (v := ?_) (a' := ?_) (bl 24 32767) rfl rfl (by kernel_rfl) (fun _ _ _ h => h) (Or.inl ⟨by rfl, ?_⟩) ?_ ?_
                rotate_left
                · intro w'; go_simp; with_reducible rfl
                rotate_left
                · simp only [Act.put, zA, zB, zC, i64_w, i32_w]; rfl
                refine pure_ (i := 15) (N := some 100) (v := ?_) (a' := ?_) (bl 24 65535) rfl rfl (by kernel_rfl) (fun _ _ _ h => h) (Or.inl ⟨by rfl, ?_⟩) ?_ ?_
                rotate_left
                · intro w'; go_simp; with_reducible rfl
                rotate_left
                · simp only [Act.put, zA, zB, zC, i64_w, i32_w]; rfl
                refine pure_ (i := 16) (N := some 101) (v := undef) (a' := ?_) (bl 24 131071) rfl rfl (by kernel_rfl) (fun _ _ _ h => h) (Or.inr ⟨by rfl, rfl⟩) ?_ ?_
                rotate_left
                · simp only [Act.put, zA, zB, zC, i64_w, i32_w]; rfl
                refine pure_ (i := 17) (N := some 102) (v := undef) (a' := ?_) (bl 24 262143) rfl rfl (by kernel_rfl) (fun _ _ _ h => h) (Or.inr ⟨by rfl, rfl⟩) ?_ ?_
                rotate_left
                · simp only [Act.put, zA, zB, zC, i64_w, i32_w]; rfl
                refine pure_ (i := 18) (N := some 103) (v := undef) (a' := ?_) (bl 24 524287) rfl rfl (by kernel_rfl) (fun _ _ _ h => h) (Or.inr ⟨by rfl, rfl⟩) ?_ ?_
                rotate_left
                · simp only [Act.put, zA, zB, zC, i64_w, i32_w]; rfl
                refine pure_ (i := 19) (N := some 104) (v := undef) (a' := ?_) (bl 24 1048575) rfl rfl (by kernel_rfl) (fun _ _ _ h => h) (Or.inr ⟨by rfl, rfl⟩) ?_ ?_
                rotate_left
                · simp only [Act.put, zA, zB, zC, i64_w, i32_w]; rfl
                refine pure_ (i := 20) (N := some 105) (v := ?_) (a' := ?_) (bl 24 2097151) rfl rfl (by kernel_rfl) (fun _ _ _ h => h) (Or.inl ⟨by rfl, ?_⟩) ?_ ?_
                rotate_left
                · intro w'; go_simp; with_reducible rfl
                rotate_left
                · simp only [Act.put, zA, zB, zC, i64_w, i32_w]; rfl
                refine pure_ (i := 21) (N := some 106) (v := ?_) (a' := ?_) (bl 24 4194303) rfl rfl (by kernel_rfl) (fun _ _ _ h => h) (Or.inl ⟨by rfl, ?_⟩) ?_ ?_
                rotate_left
                · intro w'; go_simp; with_reducible rfl
                rotate_left
                · simp only [Act.put, zA, zB, zC, i64_w, i32_w]; rfl
                refine pure_ (i := 22) (N := some 8) (v := ?_) (a' := ?_) (bl 24 8388607) rfl rfl (by kernel_rfl) (fun _ _ _ h => h) (Or.inl ⟨by rfl, ?_⟩) ?_ ?_
                rotate_left
                · intro w'; go_simp; with_reducible rfl
                rotate_left
                · simp only [Act.put, zA, zB, zC, i64_w, i32_w]; rfl
                refine pure_ (i := 23) (N := some 9) (v := ?_) (a' := ?_) (bl 24 16777215) rfl rfl (by kernel_rfl) (fun _ _ _ h => h) (Or.inl ⟨by rfl, ?_⟩) ?_ ?_
                rotate_left
                · intro w'; go_simp; with_reducible rfl
                rotate_left
                · simp only [Act.put, zA, zB, zC, i64_w, i32_w]; rfl
                refine done_ (by kernel_rfl) ?_
                have C := HB.out.cl
                simp only [Cl, and_true] at C
                obtain ⟨_, _, _, _, _, _, _, _, _, _, _, _⟩ := C
                go_wp2_with fail
                go_roundg (3 - j)
                case measure => omega
                case rel => exact ⟨j + 1, true, false, by omega, by first | rfl | (simp; done) | (simp [*]; done), by first | rfl | (simp; done) | (simp [*]; done), by simp, ⟨⟨keep HI.out.1 (fun _ => rfl) (fun _ => rfl), keep HI.out.2 (fun c => by cases c) (fun k => absurd (hB.out k).1 HE.out)⟩⟩, HB, HS, HT⟩
              | true =>
                replace HB := Aside0.mk (HB.out.drew)
                replace HS := Aside0.mk (HS.out.drew)
                replace HT := Aside0.mk (HT.out.drew)
                refine start_ (n := 24) (S := fun w' => True) (ds := []) #[false, false, false, false, false, false, false, false, false, false, false, false, false, false, false, false, false, false, false, false, false, false, false, false] (by kernel_rfl) rfl rfl trivial (fun hHeld => ?_)
                generalize w1.drew = wv9 at HB HS HT hHeld ⊢
                refine pure_ (i := 0) (N := some 85) (v := ?_) (a' := ?_) (bl 24 1) rfl rfl (by kernel_rfl) (fun _ _ _ h => h) (Or.inl ⟨by rfl, ?_⟩) ?_ ?_
                rotate_left
                · intro w'; go_simp; with_reducible rfl
                rotate_left
                · simp only [Act.put, zA, zB, zC, i64_w, i32_w]; rfl
                refine pure_ (i := 1) (N := some 86) (v := ?_) (a' := ?_) (bl 24 3) rfl rfl (by kernel_rfl) (fun _ _ _ h => h) (Or.inl ⟨by rfl, ?_⟩) ?_ ?_
                rotate_left
                · intro w'; go_simp; with_reducible rfl
                rotate_left
                · simp only [Act.put, zA, zB, zC, i64_w, i32_w]; rfl
                refine pure_ (i := 2) (N := some 87) (v := undef) (a' := ?_) (bl 24 7) rfl rfl (by kernel_rfl) (fun _ _ _ h => h) (Or.inr ⟨by rfl, rfl⟩) ?_ ?_
                rotate_left
                · simp only [Act.put, zA, zB, zC, i64_w, i32_w]; rfl
                refine pure_ (i := 3) (N := some 88) (v := undef) (a' := ?_) (bl 24 15) rfl rfl (by kernel_rfl) (fun _ _ _ h => h) (Or.inr ⟨by rfl, rfl⟩) ?_ ?_
                rotate_left
                · simp only [Act.put, zA, zB, zC, i64_w, i32_w]; rfl
                refine pure_ (i := 4) (N := some 89) (v := undef) (a' := ?_) (bl 24 31) rfl rfl (by kernel_rfl) (fun _ _ _ h => h) (Or.inr ⟨by rfl, rfl⟩) ?_ ?_
                rotate_left
                · simp only [Act.put, zA, zB, zC, i64_w, i32_w]; rfl
                refine pure_ (i := 5) (N := some 90) (v := undef) (a' := ?_) (bl 24 63) rfl rfl (by kernel_rfl) (fun _ _ _ h => h) (Or.inr ⟨by rfl, rfl⟩) ?_ ?_
                rotate_left
                · simp only [Act.put, zA, zB, zC, i64_w, i32_w]; rfl
                refine pure_ (i := 6) (N := some 91) (v := undef) (a' := ?_) (bl 24 127) rfl rfl (by kernel_rfl) (fun _ _ _ h => h) (Or.inr ⟨by rfl, rfl⟩) ?_ ?_
                rotate_left
                · simp only [Act.put, zA, zB, zC, i64_w, i32_w]; rfl
                refine pure_ (i := 7) (N := some 92) (v := undef) (a' := ?_) (bl 24 255) rfl rfl (by kernel_rfl) (fun _ _ _ h => h) (Or.inr ⟨by rfl, rfl⟩) ?_ ?_
                rotate_left
                · simp only [Act.put, zA, zB, zC, i64_w, i32_w]; rfl
                refine pure_ (i := 8) (N := some 93) (v := undef) (a' := ?_) (bl 24 511) rfl rfl (by kernel_rfl) (fun _ _ _ h => h) (Or.inr ⟨by rfl, rfl⟩) ?_ ?_
                rotate_left
                · simp only [Act.put, zA, zB, zC, i64_w, i32_w]; rfl
                refine pure_ (i := 9) (N := some 94) (v := undef) (a' := ?_) (bl 24 1023) rfl rfl (by kernel_rfl) (fun _ _ _ h => h) (Or.inr ⟨by rfl, rfl⟩) ?_ ?_
                rotate_left
                · simp only [Act.put, zA, zB, zC, i64_w, i32_w]; rfl
                refine pure_ (i := 10) (N := some 95) (v := ?_) (a' := ?_) (bl 24 2047) rfl rfl (by kernel_rfl) (fun _ _ _ h => h) (Or.inl ⟨by rfl, ?_⟩) ?_ ?_
                rotate_left
                · intro w'; go_simp; with_reducible rfl
                rotate_left
                · simp only [Act.put, zA, zB, zC, i64_w, i32_w]; rfl
                refine pure_ (i := 11) (N := some 96) (v := ?_) (a' := ?_) (bl 24 4095) rfl rfl (by kernel_rfl) (fun _ _ _ h => h) (Or.inl ⟨by rfl, ?_⟩) ?_ ?_
                rotate_left
                · intro w'; go_simp; with_reducible rfl
                rotate_left
                · simp only [Act.put, zA, zB, zC, i64_w, i32_w]; rfl
                refine pure_ (i := 12) (N := some 97) (v := ?_) (a' := ?_) (bl 24 8191) rfl rfl (by kernel_rfl) (fun _ _ _ h => h) (Or.inl ⟨by rfl, ?_⟩) ?_ ?_
                rotate_left
                · intro w'; go_simp; with_reducible rfl
                rotate_left
                · simp only [Act.put, zA, zB, zC, i64_w, i32_w]; rfl
                refine pure_ (i := 13) (N := some 98) (v := undef) (a' := ?_) (bl 24 16383) rfl rfl (by kernel_rfl) (fun _ _ _ h => h) (Or.inr ⟨by rfl, rfl⟩) ?_ ?_
                rotate_left
                · simp only [Act.put, zA, zB, zC, i64_w, i32_w]; rfl
                refine pure_ (i := 14) (N := some 99) (v := undef) (a' := ?_) (bl 24 32767) rfl rfl (by kernel_rfl) (fun _ _ _ h => h) (Or.inr ⟨by rfl, rfl⟩) ?_ ?_
                rotate_left
                · simp only [Act.put, zA, zB, zC, i64_w, i32_w]; rfl
                refine pure_ (i := 15) (N := some 100) (v := undef) (a' := ?_) (bl 24 65535) rfl rfl (by kernel_rfl) (fun _ _ _ h => h) (Or.inr ⟨by rfl, rfl⟩) ?_ ?_
                rotate_left
                · simp only [Act.put, zA, zB, zC, i64_w, i32_w]; rfl
                refine pure_ (i := 16) (N := some 101) (v := undef) (a' := ?_) (bl 24 131071) rfl rfl (by kernel_rfl) (fun _ _ _ h => h) (Or.inr ⟨by rfl, rfl⟩) ?_ ?_
                rotate_left
                · simp only [Act.put, zA, zB, zC, i64_w, i32_w]; rfl
                refine pure_ (i := 17) (N := some 102) (v := undef) (a' := ?_) (bl 24 262143) rfl rfl (by kernel_rfl) (fun _ _ _ h => h) (Or.inr ⟨by rfl, rfl⟩) ?_ ?_
                rotate_left
                · simp only [Act.put, zA, zB, zC, i64_w, i32_w]; rfl
                refine pure_ (i := 18) (N := some 103) (v := undef) (a' := ?_) (bl 24 524287) rfl rfl (by kernel_rfl) (fun _ _ _ h => h) (Or.inr ⟨by rfl, rfl⟩) ?_ ?_
                rotate_left
                · simp only [Act.put, zA, zB, zC, i64_w, i32_w]; rfl
                refine pure_ (i := 19) (N := some 104) (v := undef) (a' := ?_) (bl 24 1048575) rfl rfl (by kernel_rfl) (fun _ _ _ h => h) (Or.inr ⟨by rfl, rfl⟩) ?_ ?_
                rotate_left
                · simp only [Act.put, zA, zB, zC, i64_w, i32_w]; rfl
                refine pure_ (i := 20) (N := some 105) (v := undef) (a' := ?_) (bl 24 2097151) rfl rfl (by kernel_rfl) (fun _ _ _ h => h) (Or.inr ⟨by rfl, rfl⟩) ?_ ?_
                rotate_left
                · simp only [Act.put, zA, zB, zC, i64_w, i32_w]; rfl
                refine pure_ (i := 21) (N := some 106) (v := ?_) (a' := ?_) (bl 24 4194303) rfl rfl (by kernel_rfl) (fun _ _ _ h => h) (Or.inl ⟨by rfl, ?_⟩) ?_ ?_
                rotate_left
                · intro w'; go_simp; with_reducible rfl
                rotate_left
                · simp only [Act.put, zA, zB, zC, i64_w, i32_w]; rfl
                refine pure_ (i := 22) (N := some 8) (v := ?_) (a' := ?_) (bl 24 8388607) rfl rfl (by kernel_rfl) (fun _ _ _ h => h) (Or.inl ⟨by rfl, ?_⟩) ?_ ?_
                rotate_left
                · intro w'; go_simp; with_reducible rfl
                rotate_left
                · simp only [Act.put, zA, zB, zC, i64_w, i32_w]; rfl
                refine pure_ (i := 23) (N := some 9) (v := ?_) (a' := ?_) (bl 24 16777215) rfl rfl (by kernel_rfl) (fun _ _ _ h => h) (Or.inl ⟨by rfl, ?_⟩) ?_ ?_
                rotate_left
                · intro w'; go_simp; with_reducible rfl
                rotate_left
                · simp only [Act.put, zA, zB, zC, i64_w, i32_w]; rfl
                refine done_ (by kernel_rfl) ?_
                have C := HB.out.cl
                simp only [Cl, and_true] at C
                obtain ⟨_, _, _, _, _, _, _, _, _, _, _, _⟩ := C
                go_wp2_with fail
                go_roundg (3 - j)
                case measure => omega
                case rel => exact ⟨j + 1, true, true, by omega, by first | rfl | (simp; done) | (simp [*]; done), by first | rfl | (simp; done) | (simp [*]; done), by simp, ⟨⟨keep HI.out.1 (fun _ => rfl) (fun _ => rfl), keep HI.out.2 (fun _ => rfl) (fun _ => rfl)⟩⟩, HB, HS, HT⟩
        · have hd7 : decide ((j : Int) < 4) = false := decide_eq_false (by omega)
          clear hd
          go_wp2_with fail
          go_roundg (1 - i)
          case measure => omega
          case rel => exact ⟨i + 1, lo, hi, by omega, rfl, rfl, by simp, ⟨⟨fun k => HI.out.1 (by have := hj0.out; omega), fun k => HI.out.2 (by have := hj1.out; omega)⟩⟩, HB, HS⟩
    · skip
      have hd : decide ((i : Int) < 2) = false := decide_eq_false (by omega)
      obtain rfl : lo = true := HI.out.1 (by have := hi0.out; omega)
      obtain rfl : hi = true := HI.out.2 (by have := hi1.out; omega)
      go_wp2_with fail
      go_ret
      exact ⟨by first | rfl | (simp; done) | (simp [*]; done), HB.out.below⟩

theorem idx {op a b c d v : Int} (h : Hits op a b c d v) : ∃ i j : Nat, i < 2 ∧ j < 4 ∧ wv op (xs a b i) (ys c d j) = (v, 0) := by
  obtain ⟨p, q, hp, hq, hv⟩ := h
  have hi : ∃ i : Nat, i < 2 ∧ xs a b i = p := by
    rcases hp with rfl | rfl
    · exact ⟨0, by decide, rfl⟩
    · exact ⟨1, by decide, rfl⟩
  have hj : ∃ j : Nat, j < 4 ∧ ys c d j = q := by
    rcases hq with rfl | rfl | rfl | rfl
    · exact ⟨0, by decide, rfl⟩
    · exact ⟨1, by decide, rfl⟩
    · exact ⟨2, by decide, rfl⟩
    · exact ⟨3, by decide, rfl⟩
  obtain ⟨i, h1, rfl⟩ := hi
  obtain ⟨j, h2, rfl⟩ := hj
  exact ⟨i, j, h1, h2, hv⟩
theorem walk (op a1 b1 a2 b2 : Int) (w : World) (_ : (Lit.int .u8 op).wf = true) (wa : (Lit.int .i32 a1).wf = true) (wb : (Lit.int .i32 b1).wf = true) (wc : (Lit.int .i32 a2).wf = true) (wd : (Lit.int .i32 b2).wf = true) : Calls Try.prog 15 #[.int .u8 op, .agg #[.int .i32 a1, .int .i32 b1], .agg #[.int .i32 a2, .int .i32 b2]] w fun e w' => e = .returned (.bool true) ∧ Below w.heap.size w w' := by
  have ia := i32_wf wa
  have ib := i32_wf wb
  have ic := i32_wf wc
  have id := i32_wf wd
  by_cases c1 : op < 6
  · exact early0 op a1 b1 a2 b2 _ _ ⟨ia⟩ ⟨ib⟩ ⟨ic⟩ ⟨id⟩ ⟨rfl⟩ (decide_eq_true c1) w
  by_cases c2 : 9 < op
  · exact early1 op a1 b1 a2 b2 _ _ ⟨ia⟩ ⟨ib⟩ ⟨ic⟩ ⟨id⟩ ⟨rfl⟩ (decide_eq_false c1) (decide_eq_true c2) w
  by_cases c3 : b1 < a1
  · exact early2 op a1 b1 a2 b2 _ _ ⟨ia⟩ ⟨ib⟩ ⟨ic⟩ ⟨id⟩ ⟨rfl⟩ (decide_eq_false c1) (decide_eq_false c2) (decide_eq_true c3) w
  by_cases c4 : b2 < a2
  · exact early3 op a1 b1 a2 b2 _ _ ⟨ia⟩ ⟨ib⟩ ⟨ic⟩ ⟨id⟩ ⟨rfl⟩ (decide_eq_false c1) (decide_eq_false c2) (decide_eq_false c3) (decide_eq_true c4) w
  by_cases c5 : (iv op a1 b1 a2 b2).1 = -2147483648 ∧ (iv op a1 b1 a2 b2).2 = 2147483647
  · exact early4 op a1 b1 a2 b2 _ _ ⟨ia⟩ ⟨ib⟩ ⟨ic⟩ ⟨id⟩ ⟨rfl⟩ (decide_eq_false c1) (decide_eq_false c2) (decide_eq_false c3) (decide_eq_false c4) c5 w
  have hnf : (((iv op a1 b1 a2 b2).1 == -2147483648) && ((iv op a1 b1 a2 b2).2 == 2147483647)) = false := by
    rw [Bool.eq_false_iff]; intro h; rw [Bool.and_eq_true, beq_iff_eq, beq_iff_eq] at h; exact c5 h
  by_cases c6 : (iv op a1 b1 a2 b2).2 < (iv op a1 b1 a2 b2).1
  · exact early5 op a1 b1 a2 b2 _ _ ⟨ia⟩ ⟨ib⟩ ⟨ic⟩ ⟨id⟩ ⟨rfl⟩ (decide_eq_false c1) (decide_eq_false c2) (decide_eq_false c3) (decide_eq_false c4) hnf ⟨decide_eq_true c6⟩ w
  obtain ⟨t1, t2⟩ := iv_tight (op := op) (by omega) (by omega) ia ib ic id (by omega) (by omega) (fun h => c5 (by rw [h]; exact ⟨rfl, rfl⟩)) (by omega)
  obtain ⟨i0, j0, h1, h2, h3⟩ := idx t1
  obtain ⟨i1, j1, h4, h5, h6⟩ := idx t2
  exact main op a1 b1 a2 b2 _ _ ⟨ia⟩ ⟨ib⟩ ⟨ic⟩ ⟨id⟩ ⟨rfl⟩ (decide_eq_false c1) (decide_eq_false c2) (decide_eq_false c3) (decide_eq_false c4) hnf ⟨decide_eq_false c6⟩ i0 j0 i1 j1 ⟨h1⟩ ⟨h2⟩ ⟨h4⟩ ⟨h5⟩ ⟨h3⟩ ⟨h6⟩ w

end Go.Proofs.Ytoalomjmmlnclaa.Tight
