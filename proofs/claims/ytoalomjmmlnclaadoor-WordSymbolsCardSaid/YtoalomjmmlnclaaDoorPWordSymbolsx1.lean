-- PRINTED BY print.sh 35421559b90ae4d0a3588c463048766b98c2df88dd9212a6774a882060cdf62d: not written by this session
import Derived.Test.YtoalomjmmlnclaaDoorPWordSymbolsx0
namespace Go.Proofs.YtoalomjmmlnclaaDoor.PWordSymbols
open Go.RowKit Go.Proofs.YtoalomjmmlnclaaDoorW.PrintWords Go.Proofs.YtoalomjmmlnclaaDoorW.PrintLast Go.Proofs.YtoalomjmmlnclaaDoorW.PrintMore
attribute [local go_sem] max2_int min2_int max_two min_two max_three min_three max_four min_four   -- for this text's walks alone
set_option linter.unusedVariables false
set_option linter.unusedSimpArgs false

/-! ### ontimeref03_Symbols: function 4 -/
def ontimeref03_Symbols.f  : Option (List ByteArray) := some (([(⟨#[45]⟩ : ByteArray), (⟨#[33]⟩ : ByteArray), (⟨#[43]⟩ : ByteArray), (⟨#[45]⟩ : ByteArray), (⟨#[42]⟩ : ByteArray), (⟨#[47]⟩ : ByteArray), (⟨#[37]⟩ : ByteArray), (⟨#[38]⟩ : ByteArray), (⟨#[124]⟩ : ByteArray), (⟨#[94]⟩ : ByteArray), (⟨#[60, 60]⟩ : ByteArray), (⟨#[62, 62]⟩ : ByteArray), (⟨#[61, 61]⟩ : ByteArray), (⟨#[33, 61]⟩ : ByteArray), (⟨#[60]⟩ : ByteArray), (⟨#[60, 61]⟩ : ByteArray), (⟨#[62]⟩ : ByteArray), (⟨#[62, 61]⟩ : ByteArray), (⟨#[38, 38]⟩ : ByteArray), (⟨#[124, 124]⟩ : ByteArray)] : List ByteArray))
set_option maxHeartbeats 8000000 in
set_option maxRecDepth 100000 in
theorem ontimeref03_Symbols.calls  (r : List ByteArray) (w : World) (h : ontimeref03_Symbols.f  = some r) :
    Calls Tryd.prog 4 #[] w fun e w' => ∃ v0_ : Value, e = .returned (v0_) ∧ Kd.R Kd.string 9 w' w.heap.size (fun _ => True) v0_ r ∧ Below w.heap.size w w' := by
  have HB := Aside0.mk (Below.refl w.heap.size w)
  have H : (some (([(⟨#[45]⟩ : ByteArray), (⟨#[33]⟩ : ByteArray), (⟨#[43]⟩ : ByteArray), (⟨#[45]⟩ : ByteArray), (⟨#[42]⟩ : ByteArray), (⟨#[47]⟩ : ByteArray), (⟨#[37]⟩ : ByteArray), (⟨#[38]⟩ : ByteArray), (⟨#[124]⟩ : ByteArray), (⟨#[94]⟩ : ByteArray), (⟨#[60, 60]⟩ : ByteArray), (⟨#[62, 62]⟩ : ByteArray), (⟨#[61, 61]⟩ : ByteArray), (⟨#[33, 61]⟩ : ByteArray), (⟨#[60]⟩ : ByteArray), (⟨#[60, 61]⟩ : ByteArray), (⟨#[62]⟩ : ByteArray), (⟨#[62, 61]⟩ : ByteArray), (⟨#[38, 38]⟩ : ByteArray), (⟨#[124, 124]⟩ : ByteArray)] : List ByteArray))) = some r := h
  clear h
  obtain ⟨y101, hy101⟩ : ∃ y_ : List ByteArray, y_ = (([(⟨#[45]⟩ : ByteArray), (⟨#[33]⟩ : ByteArray), (⟨#[43]⟩ : ByteArray), (⟨#[45]⟩ : ByteArray), (⟨#[42]⟩ : ByteArray), (⟨#[47]⟩ : ByteArray), (⟨#[37]⟩ : ByteArray), (⟨#[38]⟩ : ByteArray), (⟨#[124]⟩ : ByteArray), (⟨#[94]⟩ : ByteArray), (⟨#[60, 60]⟩ : ByteArray), (⟨#[62, 62]⟩ : ByteArray), (⟨#[61, 61]⟩ : ByteArray), (⟨#[33, 61]⟩ : ByteArray), (⟨#[60]⟩ : ByteArray), (⟨#[60, 61]⟩ : ByteArray), (⟨#[62]⟩ : ByteArray), (⟨#[62, 61]⟩ : ByteArray), (⟨#[38, 38]⟩ : ByteArray), (⟨#[124, 124]⟩ : ByteArray)] : List ByteArray)) := ⟨_, rfl⟩
  replace H : (some y101) = some r := by first | (rw [hy101]; with_reducible exact H) | (have H2_ := (Option.bind_some _ _).symm.trans H; rw [hy101]; with_reducible exact H2_) | (have H2_ := (Option.bind_some _ _).symm.trans H; with_reducible exact H2_) | with_reducible exact H | (rw [hy101]; exact H) | exact H
  have Ny101 := Aside0.mk hy101
  clear hy101
  obtain rfl := Option.some.inj H
  go_enter Tryd.func4, Tryd.ntmps4
  go_wp2_with (first | ((with_reducible refine gate_dst (N := 1) rfl ?_); refine Kd.R_lit Kd.string _ 9 ?hg (N := 1) ?hd (xs := ([(⟨#[45]⟩ : ByteArray), (⟨#[33]⟩ : ByteArray), (⟨#[43]⟩ : ByteArray), (⟨#[45]⟩ : ByteArray), (⟨#[42]⟩ : ByteArray), (⟨#[47]⟩ : ByteArray), (⟨#[37]⟩ : ByteArray), (⟨#[38]⟩ : ByteArray), (⟨#[124]⟩ : ByteArray), (⟨#[94]⟩ : ByteArray), (⟨#[60, 60]⟩ : ByteArray), (⟨#[62, 62]⟩ : ByteArray), (⟨#[61, 61]⟩ : ByteArray), (⟨#[33, 61]⟩ : ByteArray), (⟨#[60]⟩ : ByteArray), (⟨#[60, 61]⟩ : ByteArray), (⟨#[62]⟩ : ByteArray), (⟨#[62, 61]⟩ : ByteArray), (⟨#[38, 38]⟩ : ByteArray), (⟨#[124, 124]⟩ : ByteArray)] : List ByteArray)) (inner := [.string (⟨#[45]⟩ : ByteArray), .string (⟨#[33]⟩ : ByteArray), .string (⟨#[43]⟩ : ByteArray), .string (⟨#[45]⟩ : ByteArray), .string (⟨#[42]⟩ : ByteArray), .string (⟨#[47]⟩ : ByteArray), .string (⟨#[37]⟩ : ByteArray), .string (⟨#[38]⟩ : ByteArray), .string (⟨#[124]⟩ : ByteArray), .string (⟨#[94]⟩ : ByteArray), .string (⟨#[60, 60]⟩ : ByteArray), .string (⟨#[62, 62]⟩ : ByteArray), .string (⟨#[61, 61]⟩ : ByteArray), .string (⟨#[33, 61]⟩ : ByteArray), .string (⟨#[60]⟩ : ByteArray), .string (⟨#[60, 61]⟩ : ByteArray), .string (⟨#[62]⟩ : ByteArray), .string (⟨#[62, 61]⟩ : ByteArray), .string (⟨#[38, 38]⟩ : ByteArray), .string (⟨#[124, 124]⟩ : ByteArray)]) (ok := fun _ => True) (okp := fun _ => True) ?hr ?hp (fun _ hk => hk) trivial (Below.refl _ _) (Nat.le_refl _) (by simp) ?_; (case hd => rfl); (case hg => rfl); (case hr => first | (go_simp; done) | (go_simp; rfl)); (case hp => exact (Reps.one (show Kd.M Kd.string _ _ _ (⟨#[45]⟩ : ByteArray) [.string (⟨#[45]⟩ : ByteArray)] from rfl) (Reps.one (show Kd.M Kd.string _ _ _ (⟨#[33]⟩ : ByteArray) [.string (⟨#[33]⟩ : ByteArray)] from rfl) (Reps.one (show Kd.M Kd.string _ _ _ (⟨#[43]⟩ : ByteArray) [.string (⟨#[43]⟩ : ByteArray)] from rfl) (Reps.one (show Kd.M Kd.string _ _ _ (⟨#[45]⟩ : ByteArray) [.string (⟨#[45]⟩ : ByteArray)] from rfl) (Reps.one (show Kd.M Kd.string _ _ _ (⟨#[42]⟩ : ByteArray) [.string (⟨#[42]⟩ : ByteArray)] from rfl) (Reps.one (show Kd.M Kd.string _ _ _ (⟨#[47]⟩ : ByteArray) [.string (⟨#[47]⟩ : ByteArray)] from rfl) (Reps.one (show Kd.M Kd.string _ _ _ (⟨#[37]⟩ : ByteArray) [.string (⟨#[37]⟩ : ByteArray)] from rfl) (Reps.one (show Kd.M Kd.string _ _ _ (⟨#[38]⟩ : ByteArray) [.string (⟨#[38]⟩ : ByteArray)] from rfl) (Reps.one (show Kd.M Kd.string _ _ _ (⟨#[124]⟩ : ByteArray) [.string (⟨#[124]⟩ : ByteArray)] from rfl) (Reps.one (show Kd.M Kd.string _ _ _ (⟨#[94]⟩ : ByteArray) [.string (⟨#[94]⟩ : ByteArray)] from rfl) (Reps.one (show Kd.M Kd.string _ _ _ (⟨#[60, 60]⟩ : ByteArray) [.string (⟨#[60, 60]⟩ : ByteArray)] from rfl) (Reps.one (show Kd.M Kd.string _ _ _ (⟨#[62, 62]⟩ : ByteArray) [.string (⟨#[62, 62]⟩ : ByteArray)] from rfl) (Reps.one (show Kd.M Kd.string _ _ _ (⟨#[61, 61]⟩ : ByteArray) [.string (⟨#[61, 61]⟩ : ByteArray)] from rfl) (Reps.one (show Kd.M Kd.string _ _ _ (⟨#[33, 61]⟩ : ByteArray) [.string (⟨#[33, 61]⟩ : ByteArray)] from rfl) (Reps.one (show Kd.M Kd.string _ _ _ (⟨#[60]⟩ : ByteArray) [.string (⟨#[60]⟩ : ByteArray)] from rfl) (Reps.one (show Kd.M Kd.string _ _ _ (⟨#[60, 61]⟩ : ByteArray) [.string (⟨#[60, 61]⟩ : ByteArray)] from rfl) (Reps.one (show Kd.M Kd.string _ _ _ (⟨#[62]⟩ : ByteArray) [.string (⟨#[62]⟩ : ByteArray)] from rfl) (Reps.one (show Kd.M Kd.string _ _ _ (⟨#[62, 61]⟩ : ByteArray) [.string (⟨#[62, 61]⟩ : ByteArray)] from rfl) (Reps.one (show Kd.M Kd.string _ _ _ (⟨#[38, 38]⟩ : ByteArray) [.string (⟨#[38, 38]⟩ : ByteArray)] from rfl) (Reps.one (show Kd.M Kd.string _ _ _ (⟨#[124, 124]⟩ : ByteArray) [.string (⟨#[124, 124]⟩ : ByteArray)] from rfl) (Reps.none _ _)))))))))))))))))))))); intro v102 w1 ho2 hb hg_ hnew_; clear hg_ hnew_; (first | rw [← Ny101.out] at ho2 | (simp only [Int.reduceToNat] at ho2; rw [← Ny101.out] at ho2)); have n0_ := Aside0.mk (Kd.R_lower ho2 (below_size (by repeat (first | (with_reducible first | exact HB.out | apply below_alloc | apply pw_below_drewN | apply below_drew1) | exact HB.out)))); have n1_ := Aside0.mk (below_step (by repeat (first | (with_reducible first | exact HB.out | apply below_alloc | apply pw_below_drewN | apply below_drew1) | exact HB.out)) hb); clear HB; have HO103 := n0_; have HB := n1_; clear n0_ n1_; clear hb ho2))
  go_ret
  exact ⟨_, by first | rfl | (simp [errW_none, errW_some] <;> rfl) | (simp [*, errW_none, errW_some] <;> rfl), by (with_reducible repeat (first | apply Kd.R_alloc | apply Kd.R_drewN | apply Kd.R_drew)); exact HO103.out, by repeat (first | (with_reducible first | exact HB.out | apply below_alloc | apply pw_below_drewN | apply below_drew1) | exact HB.out)⟩

/-! ### ontimeref03_Levels: function 5 -/
def ontimeref03_Levels.f  : Option (List Int) := some (([11, 11, 9, 9, 10, 10, 10, 5, 3, 4, 8, 8, 6, 6, 7, 7, 7, 7, 2, 1] : List Int))
set_option maxHeartbeats 8000000 in
set_option maxRecDepth 100000 in
theorem ontimeref03_Levels.calls  (r : List Int) (w : World) (h : ontimeref03_Levels.f  = some r) :
    Calls Tryd.prog 5 #[] w fun e w' => ∃ v0_ : Value, e = .returned (v0_) ∧ Kd.R (Kd.int .i64) 3 w' w.heap.size (fun _ => True) v0_ r ∧ Below w.heap.size w w' := by
  have HB := Aside0.mk (Below.refl w.heap.size w)
  have H : (some (([11, 11, 9, 9, 10, 10, 10, 5, 3, 4, 8, 8, 6, 6, 7, 7, 7, 7, 2, 1] : List Int))) = some r := h
  clear h
  obtain ⟨y104, hy104⟩ : ∃ y_ : List Int, y_ = (([11, 11, 9, 9, 10, 10, 10, 5, 3, 4, 8, 8, 6, 6, 7, 7, 7, 7, 2, 1] : List Int)) := ⟨_, rfl⟩
  replace H : (some y104) = some r := by first | (rw [hy104]; with_reducible exact H) | (have H2_ := (Option.bind_some _ _).symm.trans H; rw [hy104]; with_reducible exact H2_) | (have H2_ := (Option.bind_some _ _).symm.trans H; with_reducible exact H2_) | with_reducible exact H | (rw [hy104]; exact H) | exact H
  have Ny104 := Aside0.mk hy104
  clear hy104
  obtain rfl := Option.some.inj H
  go_enter Tryd.func5, Tryd.ntmps5
  go_wp2_with (first | ((with_reducible refine gate_dst (N := 1) rfl ?_); refine Kd.R_lit (Kd.int .i64) _ 3 ?hg (N := 1) ?hd (xs := ([11, 11, 9, 9, 10, 10, 10, 5, 3, 4, 8, 8, 6, 6, 7, 7, 7, 7, 2, 1] : List Int)) (inner := [.int .i64 11, .int .i64 11, .int .i64 9, .int .i64 9, .int .i64 10, .int .i64 10, .int .i64 10, .int .i64 5, .int .i64 3, .int .i64 4, .int .i64 8, .int .i64 8, .int .i64 6, .int .i64 6, .int .i64 7, .int .i64 7, .int .i64 7, .int .i64 7, .int .i64 2, .int .i64 1]) (ok := fun _ => True) (okp := fun _ => True) ?hr ?hp (fun _ hk => hk) trivial (Below.refl _ _) (Nat.le_refl _) (by simp) ?_; (case hd => rfl); (case hg => rfl); (case hr => first | (go_simp; done) | (go_simp; rfl)); (case hp => exact (Reps.one (show Kd.M (Kd.int .i64) _ _ _ 11 [.int .i64 11] from rfl) (Reps.one (show Kd.M (Kd.int .i64) _ _ _ 11 [.int .i64 11] from rfl) (Reps.one (show Kd.M (Kd.int .i64) _ _ _ 9 [.int .i64 9] from rfl) (Reps.one (show Kd.M (Kd.int .i64) _ _ _ 9 [.int .i64 9] from rfl) (Reps.one (show Kd.M (Kd.int .i64) _ _ _ 10 [.int .i64 10] from rfl) (Reps.one (show Kd.M (Kd.int .i64) _ _ _ 10 [.int .i64 10] from rfl) (Reps.one (show Kd.M (Kd.int .i64) _ _ _ 10 [.int .i64 10] from rfl) (Reps.one (show Kd.M (Kd.int .i64) _ _ _ 5 [.int .i64 5] from rfl) (Reps.one (show Kd.M (Kd.int .i64) _ _ _ 3 [.int .i64 3] from rfl) (Reps.one (show Kd.M (Kd.int .i64) _ _ _ 4 [.int .i64 4] from rfl) (Reps.one (show Kd.M (Kd.int .i64) _ _ _ 8 [.int .i64 8] from rfl) (Reps.one (show Kd.M (Kd.int .i64) _ _ _ 8 [.int .i64 8] from rfl) (Reps.one (show Kd.M (Kd.int .i64) _ _ _ 6 [.int .i64 6] from rfl) (Reps.one (show Kd.M (Kd.int .i64) _ _ _ 6 [.int .i64 6] from rfl) (Reps.one (show Kd.M (Kd.int .i64) _ _ _ 7 [.int .i64 7] from rfl) (Reps.one (show Kd.M (Kd.int .i64) _ _ _ 7 [.int .i64 7] from rfl) (Reps.one (show Kd.M (Kd.int .i64) _ _ _ 7 [.int .i64 7] from rfl) (Reps.one (show Kd.M (Kd.int .i64) _ _ _ 7 [.int .i64 7] from rfl) (Reps.one (show Kd.M (Kd.int .i64) _ _ _ 2 [.int .i64 2] from rfl) (Reps.one (show Kd.M (Kd.int .i64) _ _ _ 1 [.int .i64 1] from rfl) (Reps.none _ _)))))))))))))))))))))); intro v105 w1 ho2 hb hg_ hnew_; clear hg_ hnew_; (first | rw [← Ny104.out] at ho2 | (simp only [Int.reduceToNat] at ho2; rw [← Ny104.out] at ho2)); have n0_ := Aside0.mk (Kd.R_lower ho2 (below_size (by repeat (first | (with_reducible first | exact HB.out | apply below_alloc | apply pw_below_drewN | apply below_drew1) | exact HB.out)))); have n1_ := Aside0.mk (below_step (by repeat (first | (with_reducible first | exact HB.out | apply below_alloc | apply pw_below_drewN | apply below_drew1) | exact HB.out)) hb); clear HB; have HO106 := n0_; have HB := n1_; clear n0_ n1_; clear hb ho2))
  go_ret
  exact ⟨_, by first | rfl | (simp [errW_none, errW_some] <;> rfl) | (simp [*, errW_none, errW_some] <;> rfl), by (with_reducible repeat (first | apply Kd.R_alloc | apply Kd.R_drewN | apply Kd.R_drew)); exact HO106.out, by repeat (first | (with_reducible first | exact HB.out | apply below_alloc | apply pw_below_drewN | apply below_drew1) | exact HB.out)⟩

/-! ### word_Operators: function 6 -/
def word_Operators.l0 : Nat → List Int → Int → Option (List Int)
  | 0, _, _ => none
  | k + 1, x1, x2 => if x2 ≤ 23 then (if x1.length < 140737488355328 then (word_Operators.l0 k (x1 ++ [x2]) ((x2 + 1) % 256)) else (none)) else (some x1)
def word_Operators.f (k : Nat)  : Option (List Int) := word_Operators.l0 k ([] : List Int) 6
theorem word_Operators.mono_l : ∀ k, (∀ y0 y1, LeO (word_Operators.l0 k y0 y1) (word_Operators.l0 (k + 1) y0 y1))
  | 0 => fun _ _ r h => by simp [word_Operators.l0] at h
  | k + 1 => by
    have ih0 := word_Operators.mono_l k
    · intro y0 y1
      unfold word_Operators.l0
      repeat' first
      | (with_reducible exact ih0 _ _)
      | (with_reducible exact LeO.refl _)
      | (with_reducible exact LeO.none _)
      | (with_reducible refine LeO.ite ?_ ?_)
      | (with_reducible refine LeO.bind ?_ (fun _ => ?_))
      | exact ih0 _ _
      | exact LeO.none _
      | refine LeO.ite ?_ ?_
      | refine LeO.bind ?_ (fun _ => ?_)
theorem word_Operators.mono : ∀ k, LeO (word_Operators.f k ) (word_Operators.f (k + 1) ) := by
  intro  k
  have ih0 := word_Operators.mono_l k
  unfold word_Operators.f
  repeat' first
      | (with_reducible exact ih0 _ _)
      | (with_reducible exact LeO.refl _)
      | (with_reducible exact LeO.none _)
      | (with_reducible refine LeO.ite ?_ ?_)
      | (with_reducible refine LeO.bind ?_ (fun _ => ?_))
      | exact ih0 _ _
      | exact LeO.none _
      | refine LeO.ite ?_ ?_
      | refine LeO.bind ?_ (fun _ => ?_)
set_option maxHeartbeats 8000000 in
set_option maxRecDepth 100000 in
theorem word_Operators.calls (k : Nat)  (r : List Int) (w : World) (h : word_Operators.f k  = some r) :
    Calls Tryd.prog 6 #[] w fun e w' => ∃ v0_ : Value, e = .returned (v0_) ∧ Kd.R (Kd.int .u8) 5 w' w.heap.size (fun _ => True) v0_ r ∧ Below w.heap.size w w' := by
  have HB := Aside0.mk (Below.refl w.heap.size w)
  have H : (word_Operators.l0 k ([] : List Int) 6) = some r := h
  clear h
  have H' := Aside0.mk H
  clear H
  go_enter Tryd.func6, Tryd.ntmps6
  go_wp2
  go_loopg [1, 2] k (fun kq v1 v2 w' => ∃ (x1_1 : List Int) (x2_1 : Int), v2 = .int .u8 x2_1 ∧ Aside0 (word_Operators.l0 kq x1_1 x2_1 = some r) ∧ Aside0 (kq ≤ k) ∧ Aside0 (Kd.R (Kd.int .u8) 5 w' w.heap.size (fun _ => True) v1 x1_1) ∧ Aside0 (Below w.heap.size w w'))
  case atStart => exact ⟨(([] : List Int)), (6), (by first | rfl | (simp; done) | (simp [*]; done)), H', ⟨Nat.le_refl _⟩, ⟨by first | exact Kd.R_nil _ _ _ _ _ | exact Kd.N_nil _ _ _ _ _ | exact Kd.V_nil _ _ _ _ _ | exact Kd.Q_nil _ _ _ _ _ | exact Kd.S_nil _ _ _ _ _⟩, ⟨by repeat (first | (with_reducible first | exact HB.out | apply below_alloc | apply pw_below_drewN | apply below_drew1) | exact HB.out)⟩⟩
  case round =>
    clear H'
    obtain ⟨x1_1, x2_1, rfl, HA, HK1, HO_1, HB⟩ := hrel
    cases gk with
    | zero => exact absurd HA.out (by simp [word_Operators.l0])
    | succ k1 =>
      have H := HA.out
      clear HA
      simp only [word_Operators.l0] at H
      by_cases c1 : x2_1 ≤ 23
      · rw [if_pos c1] at H
        have c1b0 : decide (x2_1 ≤ 23) = true := decide_eq_true c1
        clear c1
        by_cases c2 : x1_1.length < 140737488355328
        · rw [if_pos c2] at H
          have LMc2 := Aside0.mk c2
          clear c2
          obtain ⟨y107, hy107⟩ : ∃ y_ : List Int, y_ = (x1_1 ++ [x2_1]) := ⟨_, rfl⟩
          replace H : (word_Operators.l0 k1 y107 ((x2_1 + 1) % 256)) = some r := by first | (rw [hy107]; with_reducible exact H) | (have H2_ := (Option.bind_some _ _).symm.trans H; rw [hy107]; with_reducible exact H2_) | (have H2_ := (Option.bind_some _ _).symm.trans H; with_reducible exact H2_) | with_reducible exact H | (rw [hy107]; exact H) | exact H
          have Ny107 := Aside0.mk hy107
          clear hy107
          have H' := Aside0.mk H
          clear H
          go_wp2_with (first | ((with_reducible refine gate_builtin (b := .append) (xs := #[.tmp 7, .tmp 9]) rfl ?_); at_builtin; refine Kd.R_append (Kd.int .u8) (w0 := w) w.heap.size rfl (.tmp 7) (.tmp 9) 26 5 (.int .u8 0) 1 rfl Tryd.underlying26 info5 rfl (by decide) (by omega) u1 x1_1 x2_1 [.int .u8 x2_1] (fun _ => True) (fun _ => False) rfl rfl ?aP (fun _ hk => hk.elim) ?aF ?aO ?aB ?aS ?aL ?_; (case aP => exact rfl); (case aB => exact (by repeat (first | (with_reducible first | exact HB.out | apply below_alloc | apply pw_below_drewN | apply below_drew1) | exact HB.out))); (case aF => exact (fun _ _ => trivial)); (case aO => exact (by (with_reducible repeat (first | apply Kd.R_alloc | apply Kd.R_drewN | apply Kd.R_drew)); exact HO_1.out)); (case aS => exact (below_size (by repeat (first | (with_reducible first | exact HB.out | apply below_alloc | apply pw_below_drewN | apply below_drew1) | exact HB.out)))); (case aL => have := LMc2.out; omega); intro v108 w3 ho hb hg hat; rw [← Ny107.out] at ho; have n0_ := Aside0.mk (hb); have n1_ := Aside0.mk (ho); clear HB; clear HO_1; have HB := n0_; have HO109 := n1_; clear n0_ n1_; clear ho hb hg hat))
          go_roundg k1
          case measure => have := HK1.out; omega
          case rel => exact ⟨(y107), ((x2_1 + 1) % 256), (by first | rfl | (simp; done) | (simp [*]; done)), H', ⟨by have := HK1.out; omega⟩, ⟨by (with_reducible repeat (first | apply Kd.R_alloc | apply Kd.R_drewN | apply Kd.R_drew)); exact HO109.out⟩, ⟨by repeat (first | (with_reducible first | exact HB.out | apply below_alloc | apply pw_below_drewN | apply below_drew1) | exact HB.out)⟩⟩
        · rw [if_neg c2] at H
          exact absurd H (by simp)
      · rw [if_neg c1] at H
        have c1b0 : decide (x2_1 ≤ 23) = false := decide_eq_false c1
        clear c1
        obtain rfl := Option.some.inj H
        go_wp2
        go_ret
        exact ⟨_, by first | rfl | (simp [errW_none, errW_some] <;> rfl) | (simp [*, errW_none, errW_some] <;> rfl), by (with_reducible repeat (first | apply Kd.R_alloc | apply Kd.R_drewN | apply Kd.R_drew)); exact HO_1.out, by repeat (first | (with_reducible first | exact HB.out | apply below_alloc | apply pw_below_drewN | apply below_drew1) | exact HB.out)⟩

/-! ### word_truth: function 13 -/
def word_truth.f (a0 : Bool) : Option (Int) := if a0 = true then (some 1) else (some 0)
set_option maxHeartbeats 8000000 in
set_option maxRecDepth 100000 in
theorem word_truth.calls (a0 : Bool) (r : Int) (w : World) (h : word_truth.f a0 = some r) :
    Calls Tryd.prog 13 #[.bool a0] w fun e w' => e = .returned (.int .i32 r) ∧ Drawn0 w w' := by
  have H : (if a0 = true then (some 1) else (some 0)) = some r := h
  clear h
  by_cases c2 : a0 = true
  · subst c2
    have H1 : (some 1) = some r := by rw [if_pos rfl] at H; exact H
    clear H
    have H := H1
    clear H1
    obtain rfl := Option.some.inj H
    go_enter Tryd.func13, Tryd.ntmps13
    go_wp2
    go_ret
    exact ⟨by first | rfl | (simp; done) | (simp [*]; done), by repeat (first | exact Drawn0.refl _ | apply Drawn0.step)⟩
  · replace c2 := Bool.eq_false_iff.mpr c2
    subst c2
    have H1 : (some 0) = some r := by rw [if_neg (show ¬ (false = true) by decide)] at H; exact H
    clear H
    have H := H1
    clear H1
    obtain rfl := Option.some.inj H
    go_enter Tryd.func13, Tryd.ntmps13
    go_wp2
    go_ret
    exact ⟨by first | rfl | (simp; done) | (simp [*]; done), by repeat (first | exact Drawn0.refl _ | apply Drawn0.step)⟩

/-! ### word_compare: function 12 -/
def word_compare.f (a0 : Int) (a1 : Int) (a2 : Int) : Option (Int × Bool) := if a0 = 16 then ((word_truth.f (a1 == a2)).bind fun t110 => (some (t110, true))) else (if a0 = 17 then ((word_truth.f (a1 != a2)).bind fun t111 => (some (t111, true))) else (if a0 = 18 then ((word_truth.f (decide (a1 < a2))).bind fun t112 => (some (t112, true))) else (if a0 = 19 then ((word_truth.f (decide (a1 ≤ a2))).bind fun t113 => (some (t113, true))) else (if a0 = 20 then ((word_truth.f (decide (a1 > a2))).bind fun t114 => (some (t114, true))) else (if a0 = 21 then ((word_truth.f (decide (a1 ≥ a2))).bind fun t115 => (some (t115, true))) else (if a0 = 22 then (if a1 = 0 then ((word_truth.f false).bind fun t116 => (some (t116, true))) else ((word_truth.f (a2 != 0)).bind fun t117 => (some (t117, true)))) else (if a0 = 23 then (if a1 = 0 then ((word_truth.f (a2 != 0)).bind fun t118 => (some (t118, true))) else ((word_truth.f true).bind fun t119 => (some (t119, true)))) else (some (0, false)))))))))
set_option maxHeartbeats 8000000 in
set_option maxRecDepth 100000 in
theorem word_compare.calls (a0 : Int) (a1 : Int) (a2 : Int) (r1 : Int) (r2 : Bool) (w : World) (h : word_compare.f a0 a1 a2 = some (r1, r2)) :
    Calls Tryd.prog 12 #[.int .u8 a0, .int .i32 a1, .int .i32 a2] w fun e w' => e = .returned (.tuple #[.int .i32 r1, .bool r2]) ∧ Drawn0 w w' := by
  have H : (if a0 = 16 then ((word_truth.f (a1 == a2)).bind fun t110 => (some (t110, true))) else (if a0 = 17 then ((word_truth.f (a1 != a2)).bind fun t111 => (some (t111, true))) else (if a0 = 18 then ((word_truth.f (decide (a1 < a2))).bind fun t112 => (some (t112, true))) else (if a0 = 19 then ((word_truth.f (decide (a1 ≤ a2))).bind fun t113 => (some (t113, true))) else (if a0 = 20 then ((word_truth.f (decide (a1 > a2))).bind fun t114 => (some (t114, true))) else (if a0 = 21 then ((word_truth.f (decide (a1 ≥ a2))).bind fun t115 => (some (t115, true))) else (if a0 = 22 then (if a1 = 0 then ((word_truth.f false).bind fun t116 => (some (t116, true))) else ((word_truth.f (a2 != 0)).bind fun t117 => (some (t117, true)))) else (if a0 = 23 then (if a1 = 0 then ((word_truth.f (a2 != 0)).bind fun t118 => (some (t118, true))) else ((word_truth.f true).bind fun t119 => (some (t119, true)))) else (some (0, false)))))))))) = some (r1, r2) := h
  clear h
  by_cases c4 : a0 = 16
  · rw [if_pos c4] at H
    have c4b0 : (a0 == 16) = true := beq_iff_eq.mpr c4
    have c4b1 : (a0 != 16) = false := bne_eq_false_iff_eq.mpr c4
    clear c4
    replace H := Option.bind_eq_some_iff.mp H
    obtain ⟨t110, A50, H⟩ := H
    replace H : (some (t110, true)) = some (r1, r2) := H
    have A5 := Aside0.mk A50
    clear A50
    simp only [Option.some.injEq, Prod.mk.injEq] at H
    obtain ⟨rfl, rfl⟩ := H
    go_enter Tryd.func12, Tryd.ntmps12
    go_wp2_with (first | ((with_reducible refine gate_callee (f := 13) rfl ?_); refine goesL_ (some 14) rfl rfl Tryd.func13 (by kernel_rfl) rfl #[.bool (a1 == a2)] rfl (by (try simp only [List.map_toArray, List.map_cons, List.map_nil]); first | done | rfl | (simp only [List.length_drop, List.length_take]; rfl)) ?_; (with_reducible refine (word_truth.calls (a1 == a2) t110 _ A5.out).mono ?_); rintro e w' ⟨rfl, ⟨nd, rfl⟩⟩; refine ⟨_, rfl, ?_⟩))
    go_ret2
    exact ⟨by first | rfl | (simp; done) | (simp [*]; done), by repeat (first | exact Drawn0.refl _ | apply Drawn0.step)⟩
  · rw [if_neg c4] at H
    have c4b0 : (a0 == 16) = false := beq_eq_false_iff_ne.mpr c4
    have c4b1 : (a0 != 16) = true := bne_iff_ne.mpr c4
    by_cases c6 : a0 = 17
    · rw [if_pos c6] at H
      have c6b0 : (a0 == 17) = true := beq_iff_eq.mpr c6
      have c6b1 : (a0 != 17) = false := bne_eq_false_iff_eq.mpr c6
      clear c6
      replace H := Option.bind_eq_some_iff.mp H
      obtain ⟨t111, A70, H⟩ := H
      replace H : (some (t111, true)) = some (r1, r2) := H
      have A7 := Aside0.mk A70
      clear A70
      simp only [Option.some.injEq, Prod.mk.injEq] at H
      obtain ⟨rfl, rfl⟩ := H
      go_enter Tryd.func12, Tryd.ntmps12
      go_wp2_with (first | ((with_reducible refine gate_callee (f := 13) rfl ?_); refine goesL_ (some 20) rfl rfl Tryd.func13 (by kernel_rfl) rfl #[.bool (a1 != a2)] rfl (by (try simp only [List.map_toArray, List.map_cons, List.map_nil]); first | done | rfl | (simp only [List.length_drop, List.length_take]; rfl)) ?_; (with_reducible refine (word_truth.calls (a1 != a2) t111 _ A7.out).mono ?_); rintro e w' ⟨rfl, ⟨nd, rfl⟩⟩; refine ⟨_, rfl, ?_⟩))
      go_ret2
      exact ⟨by first | rfl | (simp; done) | (simp [*]; done), by repeat (first | exact Drawn0.refl _ | apply Drawn0.step)⟩
    · rw [if_neg c6] at H
      have c6b0 : (a0 == 17) = false := beq_eq_false_iff_ne.mpr c6
      have c6b1 : (a0 != 17) = true := bne_iff_ne.mpr c6
      by_cases c8 : a0 = 18
      · rw [if_pos c8] at H
        have c8b0 : (a0 == 18) = true := beq_iff_eq.mpr c8
        have c8b1 : (a0 != 18) = false := bne_eq_false_iff_eq.mpr c8
        clear c8
        replace H := Option.bind_eq_some_iff.mp H
        obtain ⟨t112, A90, H⟩ := H
        replace H : (some (t112, true)) = some (r1, r2) := H
        have A9 := Aside0.mk A90
        clear A90
        simp only [Option.some.injEq, Prod.mk.injEq] at H
        obtain ⟨rfl, rfl⟩ := H
        go_enter Tryd.func12, Tryd.ntmps12
        go_wp2_with (first | ((with_reducible refine gate_callee (f := 13) rfl ?_); refine goesL_ (some 26) rfl rfl Tryd.func13 (by kernel_rfl) rfl #[.bool (decide (a1 < a2))] rfl (by (try simp only [List.map_toArray, List.map_cons, List.map_nil]); first | done | rfl | (simp only [List.length_drop, List.length_take]; rfl)) ?_; (with_reducible refine (word_truth.calls (decide (a1 < a2)) t112 _ A9.out).mono ?_); rintro e w' ⟨rfl, ⟨nd, rfl⟩⟩; refine ⟨_, rfl, ?_⟩))
        go_ret2
        exact ⟨by first | rfl | (simp; done) | (simp [*]; done), by repeat (first | exact Drawn0.refl _ | apply Drawn0.step)⟩
      · rw [if_neg c8] at H
        have c8b0 : (a0 == 18) = false := beq_eq_false_iff_ne.mpr c8
        have c8b1 : (a0 != 18) = true := bne_iff_ne.mpr c8
        by_cases c10 : a0 = 19
        · rw [if_pos c10] at H
          have c10b0 : (a0 == 19) = true := beq_iff_eq.mpr c10
          have c10b1 : (a0 != 19) = false := bne_eq_false_iff_eq.mpr c10
          clear c10
          replace H := Option.bind_eq_some_iff.mp H
          obtain ⟨t113, A110, H⟩ := H
          replace H : (some (t113, true)) = some (r1, r2) := H
          have A11 := Aside0.mk A110
          clear A110
          simp only [Option.some.injEq, Prod.mk.injEq] at H
          obtain ⟨rfl, rfl⟩ := H
          go_enter Tryd.func12, Tryd.ntmps12
          go_wp2_with (first | ((with_reducible refine gate_callee (f := 13) rfl ?_); refine goesL_ (some 32) rfl rfl Tryd.func13 (by kernel_rfl) rfl #[.bool (decide (a1 ≤ a2))] rfl (by (try simp only [List.map_toArray, List.map_cons, List.map_nil]); first | done | rfl | (simp only [List.length_drop, List.length_take]; rfl)) ?_; (with_reducible refine (word_truth.calls (decide (a1 ≤ a2)) t113 _ A11.out).mono ?_); rintro e w' ⟨rfl, ⟨nd, rfl⟩⟩; refine ⟨_, rfl, ?_⟩))
          go_ret2
          exact ⟨by first | rfl | (simp; done) | (simp [*]; done), by repeat (first | exact Drawn0.refl _ | apply Drawn0.step)⟩
        · rw [if_neg c10] at H
          have c10b0 : (a0 == 19) = false := beq_eq_false_iff_ne.mpr c10
          have c10b1 : (a0 != 19) = true := bne_iff_ne.mpr c10
          by_cases c12 : a0 = 20
          · rw [if_pos c12] at H
            have c12b0 : (a0 == 20) = true := beq_iff_eq.mpr c12
            have c12b1 : (a0 != 20) = false := bne_eq_false_iff_eq.mpr c12
            clear c12
            replace H := Option.bind_eq_some_iff.mp H
            obtain ⟨t114, A130, H⟩ := H
            replace H : (some (t114, true)) = some (r1, r2) := H
            have A13 := Aside0.mk A130
            clear A130
            simp only [Option.some.injEq, Prod.mk.injEq] at H
            obtain ⟨rfl, rfl⟩ := H
            go_enter Tryd.func12, Tryd.ntmps12
            go_wp2_with (first | ((with_reducible refine gate_callee (f := 13) rfl ?_); refine goesL_ (some 38) rfl rfl Tryd.func13 (by kernel_rfl) rfl #[.bool (decide (a1 > a2))] rfl (by (try simp only [List.map_toArray, List.map_cons, List.map_nil]); first | done | rfl | (simp only [List.length_drop, List.length_take]; rfl)) ?_; (with_reducible refine (word_truth.calls (decide (a1 > a2)) t114 _ A13.out).mono ?_); rintro e w' ⟨rfl, ⟨nd, rfl⟩⟩; refine ⟨_, rfl, ?_⟩))
            go_ret2
            exact ⟨by first | rfl | (simp; done) | (simp [*]; done), by repeat (first | exact Drawn0.refl _ | apply Drawn0.step)⟩
          · rw [if_neg c12] at H
            have c12b0 : (a0 == 20) = false := beq_eq_false_iff_ne.mpr c12
            have c12b1 : (a0 != 20) = true := bne_iff_ne.mpr c12
            by_cases c14 : a0 = 21
            · rw [if_pos c14] at H
              have c14b0 : (a0 == 21) = true := beq_iff_eq.mpr c14
              have c14b1 : (a0 != 21) = false := bne_eq_false_iff_eq.mpr c14
              clear c14
              replace H := Option.bind_eq_some_iff.mp H
              obtain ⟨t115, A150, H⟩ := H
              replace H : (some (t115, true)) = some (r1, r2) := H
              have A15 := Aside0.mk A150
              clear A150
              simp only [Option.some.injEq, Prod.mk.injEq] at H
              obtain ⟨rfl, rfl⟩ := H
              go_enter Tryd.func12, Tryd.ntmps12
              go_wp2_with (first | ((with_reducible refine gate_callee (f := 13) rfl ?_); refine goesL_ (some 44) rfl rfl Tryd.func13 (by kernel_rfl) rfl #[.bool (decide (a1 ≥ a2))] rfl (by (try simp only [List.map_toArray, List.map_cons, List.map_nil]); first | done | rfl | (simp only [List.length_drop, List.length_take]; rfl)) ?_; (with_reducible refine (word_truth.calls (decide (a1 ≥ a2)) t115 _ A15.out).mono ?_); rintro e w' ⟨rfl, ⟨nd, rfl⟩⟩; refine ⟨_, rfl, ?_⟩))
              go_ret2
              exact ⟨by first | rfl | (simp; done) | (simp [*]; done), by repeat (first | exact Drawn0.refl _ | apply Drawn0.step)⟩
            · rw [if_neg c14] at H
              have c14b0 : (a0 == 21) = false := beq_eq_false_iff_ne.mpr c14
              have c14b1 : (a0 != 21) = true := bne_iff_ne.mpr c14
              by_cases c16 : a0 = 22
              · rw [if_pos c16] at H
                have c16b0 : (a0 == 22) = true := beq_iff_eq.mpr c16
                have c16b1 : (a0 != 22) = false := bne_eq_false_iff_eq.mpr c16
                clear c16
                by_cases c17 : a1 = 0
                · rw [if_pos c17] at H
                  have c17b0 : (a1 == 0) = true := beq_iff_eq.mpr c17
                  have c17b1 : (a1 != 0) = false := bne_eq_false_iff_eq.mpr c17
                  clear c17
                  replace H := Option.bind_eq_some_iff.mp H
                  obtain ⟨t116, A180, H⟩ := H
                  replace H : (some (t116, true)) = some (r1, r2) := H
                  have A18 := Aside0.mk A180
                  clear A180
                  simp only [Option.some.injEq, Prod.mk.injEq] at H
                  obtain ⟨rfl, rfl⟩ := H
                  go_enter Tryd.func12, Tryd.ntmps12
                  go_wp2_with (first | ((with_reducible refine gate_callee (f := 13) rfl ?_); refine goesL_ (some 53) rfl rfl Tryd.func13 (by kernel_rfl) rfl #[.bool false] rfl (by (try simp only [List.map_toArray, List.map_cons, List.map_nil]); first | done | rfl | (simp only [List.length_drop, List.length_take]; rfl)) ?_; (with_reducible refine (word_truth.calls false t116 _ A18.out).mono ?_); rintro e w' ⟨rfl, ⟨nd, rfl⟩⟩; refine ⟨_, rfl, ?_⟩))
                  go_ret2
                  exact ⟨by first | rfl | (simp; done) | (simp [*]; done), by repeat (first | exact Drawn0.refl _ | apply Drawn0.step)⟩
                · rw [if_neg c17] at H
                  have c17b0 : (a1 == 0) = false := beq_eq_false_iff_ne.mpr c17
                  have c17b1 : (a1 != 0) = true := bne_iff_ne.mpr c17
                  replace H := Option.bind_eq_some_iff.mp H
                  obtain ⟨t117, A190, H⟩ := H
                  replace H : (some (t117, true)) = some (r1, r2) := H
                  have A19 := Aside0.mk A190
                  clear A190
                  simp only [Option.some.injEq, Prod.mk.injEq] at H
                  obtain ⟨rfl, rfl⟩ := H
                  go_enter Tryd.func12, Tryd.ntmps12
                  go_wp2_with (first | ((with_reducible refine gate_callee (f := 13) rfl ?_); refine goesL_ (some 53) rfl rfl Tryd.func13 (by kernel_rfl) rfl #[.bool (a2 != 0)] rfl (by (try simp only [List.map_toArray, List.map_cons, List.map_nil]); first | done | rfl | (simp only [List.length_drop, List.length_take]; rfl)) ?_; (with_reducible refine (word_truth.calls (a2 != 0) t117 _ A19.out).mono ?_); rintro e w' ⟨rfl, ⟨nd, rfl⟩⟩; refine ⟨_, rfl, ?_⟩))
                  go_ret2
                  exact ⟨by first | rfl | (simp; done) | (simp [*]; done), by repeat (first | exact Drawn0.refl _ | apply Drawn0.step)⟩
              · rw [if_neg c16] at H
                have c16b0 : (a0 == 22) = false := beq_eq_false_iff_ne.mpr c16
                have c16b1 : (a0 != 22) = true := bne_iff_ne.mpr c16
                by_cases c20 : a0 = 23
                · rw [if_pos c20] at H
                  have c20b0 : (a0 == 23) = true := beq_iff_eq.mpr c20
                  have c20b1 : (a0 != 23) = false := bne_eq_false_iff_eq.mpr c20
                  clear c20
                  by_cases c21 : a1 = 0
                  · rw [if_pos c21] at H
                    have c21b0 : (a1 == 0) = true := beq_iff_eq.mpr c21
                    have c21b1 : (a1 != 0) = false := bne_eq_false_iff_eq.mpr c21
                    clear c21
                    replace H := Option.bind_eq_some_iff.mp H
                    obtain ⟨t118, A220, H⟩ := H
                    replace H : (some (t118, true)) = some (r1, r2) := H
                    have A22 := Aside0.mk A220
                    clear A220
                    simp only [Option.some.injEq, Prod.mk.injEq] at H
                    obtain ⟨rfl, rfl⟩ := H
                    go_enter Tryd.func12, Tryd.ntmps12
                    go_wp2_with (first | ((with_reducible refine gate_callee (f := 13) rfl ?_); refine goesL_ (some 62) rfl rfl Tryd.func13 (by kernel_rfl) rfl #[.bool (a2 != 0)] rfl (by (try simp only [List.map_toArray, List.map_cons, List.map_nil]); first | done | rfl | (simp only [List.length_drop, List.length_take]; rfl)) ?_; (with_reducible refine (word_truth.calls (a2 != 0) t118 _ A22.out).mono ?_); rintro e w' ⟨rfl, ⟨nd, rfl⟩⟩; refine ⟨_, rfl, ?_⟩))
                    go_ret2
                    exact ⟨by first | rfl | (simp; done) | (simp [*]; done), by repeat (first | exact Drawn0.refl _ | apply Drawn0.step)⟩
                  · rw [if_neg c21] at H
                    have c21b0 : (a1 == 0) = false := beq_eq_false_iff_ne.mpr c21
                    have c21b1 : (a1 != 0) = true := bne_iff_ne.mpr c21
                    replace H := Option.bind_eq_some_iff.mp H
                    obtain ⟨t119, A230, H⟩ := H
                    replace H : (some (t119, true)) = some (r1, r2) := H
                    have A23 := Aside0.mk A230
                    clear A230
                    simp only [Option.some.injEq, Prod.mk.injEq] at H
                    obtain ⟨rfl, rfl⟩ := H
                    go_enter Tryd.func12, Tryd.ntmps12
                    go_wp2_with (first | ((with_reducible refine gate_callee (f := 13) rfl ?_); refine goesL_ (some 62) rfl rfl Tryd.func13 (by kernel_rfl) rfl #[.bool true] rfl (by (try simp only [List.map_toArray, List.map_cons, List.map_nil]); first | done | rfl | (simp only [List.length_drop, List.length_take]; rfl)) ?_; (with_reducible refine (word_truth.calls true t119 _ A23.out).mono ?_); rintro e w' ⟨rfl, ⟨nd, rfl⟩⟩; refine ⟨_, rfl, ?_⟩))
                    go_ret2
                    exact ⟨by first | rfl | (simp; done) | (simp [*]; done), by repeat (first | exact Drawn0.refl _ | apply Drawn0.step)⟩
                · rw [if_neg c20] at H
                  have c20b0 : (a0 == 23) = false := beq_eq_false_iff_ne.mpr c20
                  have c20b1 : (a0 != 23) = true := bne_iff_ne.mpr c20
                  simp only [Option.some.injEq, Prod.mk.injEq] at H
                  obtain ⟨rfl, rfl⟩ := H
                  go_enter Tryd.func12, Tryd.ntmps12
                  go_wp2
                  go_ret2
                  exact ⟨by first | rfl | (simp; done) | (simp [*]; done), by repeat (first | exact Drawn0.refl _ | apply Drawn0.step)⟩

/-! ### word_Apply: function 10 -/
def word_Apply.j0 : Nat → Int → Int → Int → Int → Bool → Option (Int × Int)
  | 0, _, _, _, _, _ => none
  | k + 1, x0, x1, x2, x10, x26 => if x26 = true then (if x2 = 0 then (some (0, 9)) else (if x0 = 9 then (some (wrap32 (Int.tdiv x1 x2), 0)) else (some (Int.tmod x1 x2, 0)))) else (if x10 = 11 then (some (Go.bits .and .i32 x1 x2, 0)) else (if x10 = 12 then (some (Go.bits .or .i32 x1 x2, 0)) else (if x10 = 13 then (some (Go.bits .xor .i32 x1 x2, 0)) else (if x10 = 14 then (some (wrap32 (x1 * 2 ^ (((x2) % 4294967296) % 32).toNat), 0)) else (if x10 = 15 then (some (x1 / 2 ^ (((x2) % 4294967296) % 32).toNat, 0)) else ((word_compare.f x0 x1 x2).bind fun bt120 => (if bt120.2 = true then (some (bt120.1, 0)) else (some (0, 1)))))))))
def word_Apply.f (k : Nat) (a0 : Int) (a1 : Int) (a2 : Int) : Option (Int × Int) := if a0 = 6 then (some (wrap32 (a1 + a2), 0)) else (if a0 = 7 then (some (wrap32 (a1 - a2), 0)) else (if a0 = 8 then (some (wrap32 (a1 * a2), 0)) else (if a0 = 9 then (word_Apply.j0 k a0 a1 a2 a0 (a0 == 9)) else (word_Apply.j0 k a0 a1 a2 a0 (a0 == 10)))))
theorem word_Apply.mono_l : ∀ k, (∀ y0 y1 y2 y3 y4, LeO (word_Apply.j0 k y0 y1 y2 y3 y4) (word_Apply.j0 (k + 1) y0 y1 y2 y3 y4))
  | 0 => fun _ _ _ _ _ r h => by simp [word_Apply.j0] at h
  | k + 1 => by
    have ih0 := word_Apply.mono_l k
    · intro y0 y1 y2 y3 y4
      unfold word_Apply.j0
      repeat' first
      | (with_reducible exact ih0 _ _ _ _ _)
      | (with_reducible exact LeO.refl _)
      | (with_reducible exact LeO.none _)
      | (with_reducible refine LeO.ite ?_ ?_)
      | (with_reducible refine LeO.bind ?_ (fun _ => ?_))
      | exact ih0 _ _ _ _ _
      | exact LeO.none _
      | refine LeO.ite ?_ ?_
      | refine LeO.bind ?_ (fun _ => ?_)
theorem word_Apply.mono : ∀ a0 a1 a2 k, LeO (word_Apply.f k a0 a1 a2) (word_Apply.f (k + 1) a0 a1 a2) := by
  intro a0 a1 a2 k
  have ih0 := word_Apply.mono_l k
  unfold word_Apply.f
  repeat' first
      | (with_reducible exact ih0 _ _ _ _ _)
      | (with_reducible exact LeO.refl _)
      | (with_reducible exact LeO.none _)
      | (with_reducible refine LeO.ite ?_ ?_)
      | (with_reducible refine LeO.bind ?_ (fun _ => ?_))
      | exact ih0 _ _ _ _ _
      | exact LeO.none _
      | refine LeO.ite ?_ ?_
      | refine LeO.bind ?_ (fun _ => ?_)
set_option maxHeartbeats 8000000 in
set_option maxRecDepth 100000 in
theorem word_Apply.calls (k : Nat) (a0 : Int) (a1 : Int) (a2 : Int) (r1 : Int) (r2 : Int) (w : World) (h : word_Apply.f k a0 a1 a2 = some (r1, r2)) :
    Calls Tryd.prog 10 #[.int .u8 a0, .int .i32 a1, .int .i32 a2] w fun e w' => e = .returned (.tuple #[.int .i32 r1, .int .i64 r2]) ∧ Drawn0 w w' := by
  have H : (if a0 = 6 then (some (wrap32 (a1 + a2), 0)) else (if a0 = 7 then (some (wrap32 (a1 - a2), 0)) else (if a0 = 8 then (some (wrap32 (a1 * a2), 0)) else (if a0 = 9 then (word_Apply.j0 k a0 a1 a2 a0 (a0 == 9)) else (word_Apply.j0 k a0 a1 a2 a0 (a0 == 10)))))) = some (r1, r2) := h
  clear h
  by_cases c4 : a0 = 6
  · rw [if_pos c4] at H
    have c4b0 : (a0 == 6) = true := beq_iff_eq.mpr c4
    have c4b1 : (a0 != 6) = false := bne_eq_false_iff_eq.mpr c4
    clear c4
    simp only [Option.some.injEq, Prod.mk.injEq] at H
    obtain ⟨rfl, rfl⟩ := H
    go_enter Tryd.func10, Tryd.ntmps10
    go_wp2
    go_ret2
    exact ⟨by first | rfl | (simp; done) | (simp [*]; done), by repeat (first | exact Drawn0.refl _ | apply Drawn0.step)⟩
  · rw [if_neg c4] at H
    have c4b0 : (a0 == 6) = false := beq_eq_false_iff_ne.mpr c4
    have c4b1 : (a0 != 6) = true := bne_iff_ne.mpr c4
    by_cases c5 : a0 = 7
    · rw [if_pos c5] at H
      have c5b0 : (a0 == 7) = true := beq_iff_eq.mpr c5
      have c5b1 : (a0 != 7) = false := bne_eq_false_iff_eq.mpr c5
      clear c5
      simp only [Option.some.injEq, Prod.mk.injEq] at H
      obtain ⟨rfl, rfl⟩ := H
      go_enter Tryd.func10, Tryd.ntmps10
      go_wp2
      go_ret2
      exact ⟨by first | rfl | (simp; done) | (simp [*]; done), by repeat (first | exact Drawn0.refl _ | apply Drawn0.step)⟩
    · rw [if_neg c5] at H
      have c5b0 : (a0 == 7) = false := beq_eq_false_iff_ne.mpr c5
      have c5b1 : (a0 != 7) = true := bne_iff_ne.mpr c5
      by_cases c6 : a0 = 8
      · rw [if_pos c6] at H
        have c6b0 : (a0 == 8) = true := beq_iff_eq.mpr c6
        have c6b1 : (a0 != 8) = false := bne_eq_false_iff_eq.mpr c6
        clear c6
        simp only [Option.some.injEq, Prod.mk.injEq] at H
        obtain ⟨rfl, rfl⟩ := H
        go_enter Tryd.func10, Tryd.ntmps10
        go_wp2
        go_ret2
        exact ⟨by first | rfl | (simp; done) | (simp [*]; done), by repeat (first | exact Drawn0.refl _ | apply Drawn0.step)⟩
      · rw [if_neg c6] at H
        have c6b0 : (a0 == 8) = false := beq_eq_false_iff_ne.mpr c6
        have c6b1 : (a0 != 8) = true := bne_iff_ne.mpr c6
        have HC7 := Aside0.mk H
        clear H
        go_enter Tryd.func10, Tryd.ntmps10
        go_upto_if 26 with (fail)
        go_cut [26] (fun v26 wc => ∃ (kq : Nat) (x26_6 : Bool), v26 = .bool x26_6 ∧ Aside0 (word_Apply.j0 kq a0 a1 a2 a0 x26_6 = some (r1, r2)) ∧ Aside0 (kq ≤ k) ∧ Drawn0 w wc)
        case first =>
          have H := HC7.out
          clear HC7
          by_cases c8 : a0 = 9
          · rw [if_pos c8] at H
            have c8b0 : (a0 == 9) = true := beq_iff_eq.mpr c8
            have c8b1 : (a0 != 9) = false := bne_eq_false_iff_eq.mpr c8
            clear c8
            (first | rw [c8b0] | (simp only [i64_w, i32_w]; rw [c8b0]) | skip)
            have H' := Aside0.mk H
            clear H
            go_wp2
            go_meet
            case rel => exact ⟨_, ((a0 == 9)), (by first | rfl | (simp; done) | (simp [*]; done)), H', ⟨by first | omega | exact Nat.le_refl _⟩, by repeat (first | exact Drawn0.refl _ | apply Drawn0.step)⟩
          · rw [if_neg c8] at H
            have c8b0 : (a0 == 9) = false := beq_eq_false_iff_ne.mpr c8
            have c8b1 : (a0 != 9) = true := bne_iff_ne.mpr c8
            (first | rw [c8b0] | (simp only [i64_w, i32_w]; rw [c8b0]) | skip)
            have H' := Aside0.mk H
            clear H
            go_wp2
            go_meet
            case rel => exact ⟨_, ((a0 == 10)), (by first | rfl | (simp; done) | (simp [*]; done)), H', ⟨by first | omega | exact Nat.le_refl _⟩, by repeat (first | exact Drawn0.refl _ | apply Drawn0.step)⟩
        case rest =>
          clear HC7
          try clear c1
          try clear p2
          try clear p3
          try clear c4
          try clear c4b0
          try clear c4b1
          try clear c5
          try clear c5b0
          try clear c5b1
          try clear c6
          try clear c6b0
          try clear c6b1
          try clear c8
          try clear c8b0
          try clear c8b1
          obtain ⟨kq, x26_6, rfl, HA, HJ6, ⟨mc6, rfl⟩⟩ := hcut
          cases kq with
          | zero => exact absurd HA.out (by simp [word_Apply.j0])
          | succ kj6 =>
            have H := HA.out
            clear HA
            simp only [word_Apply.j0] at H
            by_cases c9 : x26_6 = true
            · subst c9
              have H1 : (if a2 = 0 then (some (0, 9)) else (if a0 = 9 then (some (wrap32 (Int.tdiv a1 a2), 0)) else (some (Int.tmod a1 a2, 0)))) = some (r1, r2) := by rw [if_pos rfl] at H; exact H
              clear H
              have H := H1
              clear H1
              by_cases c10 : a2 = 0
              · rw [if_pos c10] at H
                have c10b0 : (a2 == 0) = true := beq_iff_eq.mpr c10
                have c10b1 : (a2 != 0) = false := bne_eq_false_iff_eq.mpr c10
                clear c10
                simp only [Option.some.injEq, Prod.mk.injEq] at H
                obtain ⟨rfl, rfl⟩ := H
                go_wp2
                go_ret2
                exact ⟨by first | rfl | (simp; done) | (simp [*]; done), by repeat (first | exact Drawn0.refl _ | apply Drawn0.step)⟩
              · rw [if_neg c10] at H
                have c10b0 : (a2 == 0) = false := beq_eq_false_iff_ne.mpr c10
                have c10b1 : (a2 != 0) = true := bne_iff_ne.mpr c10
                by_cases c11 : a0 = 9
                · rw [if_pos c11] at H
                  have c11b0 : (a0 == 9) = true := beq_iff_eq.mpr c11
                  have c11b1 : (a0 != 9) = false := bne_eq_false_iff_eq.mpr c11
                  clear c11
                  simp only [Option.some.injEq, Prod.mk.injEq] at H
                  obtain ⟨rfl, rfl⟩ := H
                  go_wp2
                  go_ret2
                  exact ⟨by first | rfl | (simp; done) | (simp [*]; done), by repeat (first | exact Drawn0.refl _ | apply Drawn0.step)⟩
                · rw [if_neg c11] at H
                  have c11b0 : (a0 == 9) = false := beq_eq_false_iff_ne.mpr c11
                  have c11b1 : (a0 != 9) = true := bne_iff_ne.mpr c11
                  simp only [Option.some.injEq, Prod.mk.injEq] at H
                  obtain ⟨rfl, rfl⟩ := H
                  go_wp2
                  go_ret2
                  exact ⟨by first | rfl | (simp; done) | (simp [*]; done), by repeat (first | exact Drawn0.refl _ | apply Drawn0.step)⟩
            · replace c9 := Bool.eq_false_iff.mpr c9
              subst c9
              have H1 : (if a0 = 11 then (some (Go.bits .and .i32 a1 a2, 0)) else (if a0 = 12 then (some (Go.bits .or .i32 a1 a2, 0)) else (if a0 = 13 then (some (Go.bits .xor .i32 a1 a2, 0)) else (if a0 = 14 then (some (wrap32 (a1 * 2 ^ (((a2) % 4294967296) % 32).toNat), 0)) else (if a0 = 15 then (some (a1 / 2 ^ (((a2) % 4294967296) % 32).toNat, 0)) else ((word_compare.f a0 a1 a2).bind fun bt120 => (if bt120.2 = true then (some (bt120.1, 0)) else (some (0, 1))))))))) = some (r1, r2) := by rw [if_neg (show ¬ (false = true) by decide)] at H; exact H
              clear H
              have H := H1
              clear H1
              by_cases c12 : a0 = 11
              · rw [if_pos c12] at H
                have c12b0 : (a0 == 11) = true := beq_iff_eq.mpr c12
                have c12b1 : (a0 != 11) = false := bne_eq_false_iff_eq.mpr c12
                clear c12
                simp only [Option.some.injEq, Prod.mk.injEq] at H
                obtain ⟨rfl, rfl⟩ := H
                go_wp2
                go_ret2
                exact ⟨by first | rfl | (simp; done) | (simp [*]; done), by repeat (first | exact Drawn0.refl _ | apply Drawn0.step)⟩
              · rw [if_neg c12] at H
                have c12b0 : (a0 == 11) = false := beq_eq_false_iff_ne.mpr c12
                have c12b1 : (a0 != 11) = true := bne_iff_ne.mpr c12
                by_cases c13 : a0 = 12
                · rw [if_pos c13] at H
                  have c13b0 : (a0 == 12) = true := beq_iff_eq.mpr c13
                  have c13b1 : (a0 != 12) = false := bne_eq_false_iff_eq.mpr c13
                  clear c13
                  simp only [Option.some.injEq, Prod.mk.injEq] at H
                  obtain ⟨rfl, rfl⟩ := H
                  go_wp2
                  go_ret2
                  exact ⟨by first | rfl | (simp; done) | (simp [*]; done), by repeat (first | exact Drawn0.refl _ | apply Drawn0.step)⟩
                · rw [if_neg c13] at H
                  have c13b0 : (a0 == 12) = false := beq_eq_false_iff_ne.mpr c13
                  have c13b1 : (a0 != 12) = true := bne_iff_ne.mpr c13
                  by_cases c14 : a0 = 13
                  · rw [if_pos c14] at H
                    have c14b0 : (a0 == 13) = true := beq_iff_eq.mpr c14
                    have c14b1 : (a0 != 13) = false := bne_eq_false_iff_eq.mpr c14
                    clear c14
                    simp only [Option.some.injEq, Prod.mk.injEq] at H
                    obtain ⟨rfl, rfl⟩ := H
                    go_wp2
                    go_ret2
                    exact ⟨by first | rfl | (simp; done) | (simp [*]; done), by repeat (first | exact Drawn0.refl _ | apply Drawn0.step)⟩
                  · rw [if_neg c14] at H
                    have c14b0 : (a0 == 13) = false := beq_eq_false_iff_ne.mpr c14
                    have c14b1 : (a0 != 13) = true := bne_iff_ne.mpr c14
                    by_cases c15 : a0 = 14
                    · rw [if_pos c15] at H
                      have c15b0 : (a0 == 14) = true := beq_iff_eq.mpr c15
                      have c15b1 : (a0 != 14) = false := bne_eq_false_iff_eq.mpr c15
                      clear c15
                      simp only [Option.some.injEq, Prod.mk.injEq] at H
                      obtain ⟨rfl, rfl⟩ := H
                      go_wp2
                      go_ret2
                      exact ⟨by first | rfl | (simp; done) | (simp [*]; done), by repeat (first | exact Drawn0.refl _ | apply Drawn0.step)⟩
                    · rw [if_neg c15] at H
                      have c15b0 : (a0 == 14) = false := beq_eq_false_iff_ne.mpr c15
                      have c15b1 : (a0 != 14) = true := bne_iff_ne.mpr c15
                      by_cases c16 : a0 = 15
                      · rw [if_pos c16] at H
                        have c16b0 : (a0 == 15) = true := beq_iff_eq.mpr c16
                        have c16b1 : (a0 != 15) = false := bne_eq_false_iff_eq.mpr c16
                        clear c16
                        simp only [Option.some.injEq, Prod.mk.injEq] at H
                        obtain ⟨rfl, rfl⟩ := H
                        go_wp2
                        go_ret2
                        exact ⟨by first | rfl | (simp; done) | (simp [*]; done), by repeat (first | exact Drawn0.refl _ | apply Drawn0.step)⟩
                      · rw [if_neg c16] at H
                        have c16b0 : (a0 == 15) = false := beq_eq_false_iff_ne.mpr c16
                        have c16b1 : (a0 != 15) = true := bne_iff_ne.mpr c16
                        replace H := Option.bind_eq_some_iff.mp H
                        obtain ⟨⟨t120, t121⟩, A170, H⟩ := H
                        replace H : (if t121 = true then (some (t120, 0)) else (some (0, 1))) = some (r1, r2) := H
                        have A17 := Aside0.mk A170
                        clear A170
                        by_cases c18 : t121 = true
                        · subst c18
                          have H1 : (some (t120, 0)) = some (r1, r2) := by rw [if_pos rfl] at H; exact H
                          clear H
                          have H := H1
                          clear H1
                          simp only [Option.some.injEq, Prod.mk.injEq] at H
                          obtain ⟨rfl, rfl⟩ := H
                          go_wp2_with (first | ((with_reducible refine gate_callee (f := 12) rfl ?_); refine goesL_ (some 72) rfl rfl Tryd.func12 (by kernel_rfl) rfl #[.int .u8 a0, .int .i32 a1, .int .i32 a2] rfl (by (try simp only [List.map_toArray, List.map_cons, List.map_nil]); first | done | rfl | (simp only [List.length_drop, List.length_take]; rfl)) ?_; (with_reducible refine (word_compare.calls a0 a1 a2 t120 true _ A17.out).mono ?_); rintro e w' ⟨rfl, ⟨nd, rfl⟩⟩; refine ⟨_, rfl, ?_⟩))
                          go_ret2
                          exact ⟨by first | rfl | (simp; done) | (simp [*]; done), by repeat (first | exact Drawn0.refl _ | apply Drawn0.step)⟩
                        · replace c18 := Bool.eq_false_iff.mpr c18
                          subst c18
                          have H1 : (some (0, 1)) = some (r1, r2) := by rw [if_neg (show ¬ (false = true) by decide)] at H; exact H
                          clear H
                          have H := H1
                          clear H1
                          simp only [Option.some.injEq, Prod.mk.injEq] at H
                          obtain ⟨rfl, rfl⟩ := H
                          go_wp2_with (first | ((with_reducible refine gate_callee (f := 12) rfl ?_); refine goesL_ (some 72) rfl rfl Tryd.func12 (by kernel_rfl) rfl #[.int .u8 a0, .int .i32 a1, .int .i32 a2] rfl (by (try simp only [List.map_toArray, List.map_cons, List.map_nil]); first | done | rfl | (simp only [List.length_drop, List.length_take]; rfl)) ?_; (with_reducible refine (word_compare.calls a0 a1 a2 t120 false _ A17.out).mono ?_); rintro e w' ⟨rfl, ⟨nd, rfl⟩⟩; refine ⟨_, rfl, ?_⟩))
                          go_ret2
                          exact ⟨by first | rfl | (simp; done) | (simp [*]; done), by repeat (first | exact Drawn0.refl _ | apply Drawn0.step)⟩

/-! ### ontimelaw03_awake: function 7 -/
def ontimelaw03_awake.f (k : Nat)  : Option (Bool) := (word_Apply.f k 6 2147483647 1).bind fun bt122 => ((word_Apply.f k 10 (-7) 2).bind fun bt124 => ((word_Apply.f k 15 (-7) 33).bind fun bt126 => (if bt122.2 = 0 then (if bt124.2 = 0 then (if bt126.2 = 0 then (if bt122.1 = (-2147483648) then (if bt124.1 = (-1) then (some (bt126.1 == (-4))) else (some false)) else (some false)) else (some false)) else (some false)) else (some false))))
theorem ontimelaw03_awake.mono : ∀ k, LeO (ontimelaw03_awake.f k ) (ontimelaw03_awake.f (k + 1) ) := by
  intro  k
  unfold ontimelaw03_awake.f
  repeat' first
      | (with_reducible exact word_Apply.mono _ _ _ _)
      | (with_reducible exact LeO.refl _)
      | (with_reducible exact LeO.none _)
      | (with_reducible refine LeO.ite ?_ ?_)
      | (with_reducible refine LeO.bind ?_ (fun _ => ?_))
      | exact word_Apply.mono _ _ _ _
      | exact LeO.none _
      | refine LeO.ite ?_ ?_
      | refine LeO.bind ?_ (fun _ => ?_)
set_option maxHeartbeats 8000000 in
set_option maxRecDepth 100000 in
theorem ontimelaw03_awake.calls (k : Nat)  (r : Bool) (w : World) (h : ontimelaw03_awake.f k  = some r) :
    Calls Tryd.prog 7 #[] w fun e w' => e = .returned (.bool r) ∧ Drawn0 w w' := by
  have H : ((word_Apply.f k 6 2147483647 1).bind fun bt122 => ((word_Apply.f k 10 (-7) 2).bind fun bt124 => ((word_Apply.f k 15 (-7) 33).bind fun bt126 => (if bt122.2 = 0 then (if bt124.2 = 0 then (if bt126.2 = 0 then (if bt122.1 = (-2147483648) then (if bt124.1 = (-1) then (some (bt126.1 == (-4))) else (some false)) else (some false)) else (some false)) else (some false)) else (some false))))) = some r := h
  clear h
  replace H := Option.bind_eq_some_iff.mp H
  obtain ⟨⟨t122, t123⟩, A10, H⟩ := H
  replace H : ((word_Apply.f k 10 (-7) 2).bind fun bt124 => ((word_Apply.f k 15 (-7) 33).bind fun bt126 => (if t123 = 0 then (if bt124.2 = 0 then (if bt126.2 = 0 then (if t122 = (-2147483648) then (if bt124.1 = (-1) then (some (bt126.1 == (-4))) else (some false)) else (some false)) else (some false)) else (some false)) else (some false)))) = some r := H
  have A1 := Aside0.mk A10
  clear A10
  replace H := Option.bind_eq_some_iff.mp H
  obtain ⟨⟨t124, t125⟩, A20, H⟩ := H
  replace H : ((word_Apply.f k 15 (-7) 33).bind fun bt126 => (if t123 = 0 then (if t125 = 0 then (if bt126.2 = 0 then (if t122 = (-2147483648) then (if t124 = (-1) then (some (bt126.1 == (-4))) else (some false)) else (some false)) else (some false)) else (some false)) else (some false))) = some r := H
  have A2 := Aside0.mk A20
  clear A20
  replace H := Option.bind_eq_some_iff.mp H
  obtain ⟨⟨t126, t127⟩, A30, H⟩ := H
  replace H : (if t123 = 0 then (if t125 = 0 then (if t127 = 0 then (if t122 = (-2147483648) then (if t124 = (-1) then (some (t126 == (-4))) else (some false)) else (some false)) else (some false)) else (some false)) else (some false)) = some r := H
  have A3 := Aside0.mk A30
  clear A30
  by_cases c4 : t123 = 0
  · rw [if_pos c4] at H
    have c4b0 : (t123 == 0) = true := beq_iff_eq.mpr c4
    have c4b1 : (t123 != 0) = false := bne_eq_false_iff_eq.mpr c4
    clear c4
    by_cases c5 : t125 = 0
    · rw [if_pos c5] at H
      have c5b0 : (t125 == 0) = true := beq_iff_eq.mpr c5
      have c5b1 : (t125 != 0) = false := bne_eq_false_iff_eq.mpr c5
      clear c5
      by_cases c6 : t127 = 0
      · rw [if_pos c6] at H
        have c6b0 : (t127 == 0) = true := beq_iff_eq.mpr c6
        have c6b1 : (t127 != 0) = false := bne_eq_false_iff_eq.mpr c6
        clear c6
        by_cases c7 : t122 = (-2147483648)
        · rw [if_pos c7] at H
          have c7b0 : (t122 == (-2147483648)) = true := beq_iff_eq.mpr c7
          have c7b1 : (t122 != (-2147483648)) = false := bne_eq_false_iff_eq.mpr c7
          clear c7
          by_cases c8 : t124 = (-1)
          · rw [if_pos c8] at H
            have c8b0 : (t124 == (-1)) = true := beq_iff_eq.mpr c8
            have c8b1 : (t124 != (-1)) = false := bne_eq_false_iff_eq.mpr c8
            clear c8
            obtain rfl := Option.some.inj H
            go_enter Tryd.func7, Tryd.ntmps7
            go_wp2_with (first | ((with_reducible refine gate_callee (f := 10) rfl ?_); refine goesL_ (some 8) rfl rfl Tryd.func10 (by kernel_rfl) rfl #[.int .u8 6, .int .i32 2147483647, .int .i32 1] rfl (by (try simp only [List.map_toArray, List.map_cons, List.map_nil]); first | done | rfl | (simp only [List.length_drop, List.length_take]; rfl)) ?_; (with_reducible refine (word_Apply.calls k 6 2147483647 1 t122 t123 _ A1.out).mono ?_); rintro e w' ⟨rfl, ⟨nd, rfl⟩⟩; refine ⟨_, rfl, ?_⟩) | ((with_reducible refine gate_callee (f := 10) rfl ?_); refine goesL_ (some 12) rfl rfl Tryd.func10 (by kernel_rfl) rfl #[.int .u8 10, .int .i32 (-7), .int .i32 2] rfl (by (try simp only [List.map_toArray, List.map_cons, List.map_nil]); first | done | rfl | (simp only [List.length_drop, List.length_take]; rfl)) ?_; (with_reducible refine (word_Apply.calls k 10 (-7) 2 t124 t125 _ A2.out).mono ?_); rintro e w' ⟨rfl, ⟨nd, rfl⟩⟩; refine ⟨_, rfl, ?_⟩) | ((with_reducible refine gate_callee (f := 10) rfl ?_); refine goesL_ (some 16) rfl rfl Tryd.func10 (by kernel_rfl) rfl #[.int .u8 15, .int .i32 (-7), .int .i32 33] rfl (by (try simp only [List.map_toArray, List.map_cons, List.map_nil]); first | done | rfl | (simp only [List.length_drop, List.length_take]; rfl)) ?_; (with_reducible refine (word_Apply.calls k 15 (-7) 33 t126 t127 _ A3.out).mono ?_); rintro e w' ⟨rfl, ⟨nd, rfl⟩⟩; refine ⟨_, rfl, ?_⟩))
            go_ret
            exact ⟨by first | rfl | (simp; done) | (simp [*]; done), by repeat (first | exact Drawn0.refl _ | apply Drawn0.step)⟩
          · rw [if_neg c8] at H
            have c8b0 : (t124 == (-1)) = false := beq_eq_false_iff_ne.mpr c8
            have c8b1 : (t124 != (-1)) = true := bne_iff_ne.mpr c8
            obtain rfl := Option.some.inj H
            go_enter Tryd.func7, Tryd.ntmps7
            go_wp2_with (first | ((with_reducible refine gate_callee (f := 10) rfl ?_); refine goesL_ (some 8) rfl rfl Tryd.func10 (by kernel_rfl) rfl #[.int .u8 6, .int .i32 2147483647, .int .i32 1] rfl (by (try simp only [List.map_toArray, List.map_cons, List.map_nil]); first | done | rfl | (simp only [List.length_drop, List.length_take]; rfl)) ?_; (with_reducible refine (word_Apply.calls k 6 2147483647 1 t122 t123 _ A1.out).mono ?_); rintro e w' ⟨rfl, ⟨nd, rfl⟩⟩; refine ⟨_, rfl, ?_⟩) | ((with_reducible refine gate_callee (f := 10) rfl ?_); refine goesL_ (some 12) rfl rfl Tryd.func10 (by kernel_rfl) rfl #[.int .u8 10, .int .i32 (-7), .int .i32 2] rfl (by (try simp only [List.map_toArray, List.map_cons, List.map_nil]); first | done | rfl | (simp only [List.length_drop, List.length_take]; rfl)) ?_; (with_reducible refine (word_Apply.calls k 10 (-7) 2 t124 t125 _ A2.out).mono ?_); rintro e w' ⟨rfl, ⟨nd, rfl⟩⟩; refine ⟨_, rfl, ?_⟩) | ((with_reducible refine gate_callee (f := 10) rfl ?_); refine goesL_ (some 16) rfl rfl Tryd.func10 (by kernel_rfl) rfl #[.int .u8 15, .int .i32 (-7), .int .i32 33] rfl (by (try simp only [List.map_toArray, List.map_cons, List.map_nil]); first | done | rfl | (simp only [List.length_drop, List.length_take]; rfl)) ?_; (with_reducible refine (word_Apply.calls k 15 (-7) 33 t126 t127 _ A3.out).mono ?_); rintro e w' ⟨rfl, ⟨nd, rfl⟩⟩; refine ⟨_, rfl, ?_⟩))
            go_ret
            exact ⟨by first | rfl | (simp; done) | (simp [*]; done), by repeat (first | exact Drawn0.refl _ | apply Drawn0.step)⟩
        · rw [if_neg c7] at H
          have c7b0 : (t122 == (-2147483648)) = false := beq_eq_false_iff_ne.mpr c7
          have c7b1 : (t122 != (-2147483648)) = true := bne_iff_ne.mpr c7
          obtain rfl := Option.some.inj H
          go_enter Tryd.func7, Tryd.ntmps7
          go_wp2_with (first | ((with_reducible refine gate_callee (f := 10) rfl ?_); refine goesL_ (some 8) rfl rfl Tryd.func10 (by kernel_rfl) rfl #[.int .u8 6, .int .i32 2147483647, .int .i32 1] rfl (by (try simp only [List.map_toArray, List.map_cons, List.map_nil]); first | done | rfl | (simp only [List.length_drop, List.length_take]; rfl)) ?_; (with_reducible refine (word_Apply.calls k 6 2147483647 1 t122 t123 _ A1.out).mono ?_); rintro e w' ⟨rfl, ⟨nd, rfl⟩⟩; refine ⟨_, rfl, ?_⟩) | ((with_reducible refine gate_callee (f := 10) rfl ?_); refine goesL_ (some 12) rfl rfl Tryd.func10 (by kernel_rfl) rfl #[.int .u8 10, .int .i32 (-7), .int .i32 2] rfl (by (try simp only [List.map_toArray, List.map_cons, List.map_nil]); first | done | rfl | (simp only [List.length_drop, List.length_take]; rfl)) ?_; (with_reducible refine (word_Apply.calls k 10 (-7) 2 t124 t125 _ A2.out).mono ?_); rintro e w' ⟨rfl, ⟨nd, rfl⟩⟩; refine ⟨_, rfl, ?_⟩) | ((with_reducible refine gate_callee (f := 10) rfl ?_); refine goesL_ (some 16) rfl rfl Tryd.func10 (by kernel_rfl) rfl #[.int .u8 15, .int .i32 (-7), .int .i32 33] rfl (by (try simp only [List.map_toArray, List.map_cons, List.map_nil]); first | done | rfl | (simp only [List.length_drop, List.length_take]; rfl)) ?_; (with_reducible refine (word_Apply.calls k 15 (-7) 33 t126 t127 _ A3.out).mono ?_); rintro e w' ⟨rfl, ⟨nd, rfl⟩⟩; refine ⟨_, rfl, ?_⟩))
          go_ret
          exact ⟨by first | rfl | (simp; done) | (simp [*]; done), by repeat (first | exact Drawn0.refl _ | apply Drawn0.step)⟩
      · rw [if_neg c6] at H
        have c6b0 : (t127 == 0) = false := beq_eq_false_iff_ne.mpr c6
        have c6b1 : (t127 != 0) = true := bne_iff_ne.mpr c6
        obtain rfl := Option.some.inj H
        go_enter Tryd.func7, Tryd.ntmps7
        go_wp2_with (first | ((with_reducible refine gate_callee (f := 10) rfl ?_); refine goesL_ (some 8) rfl rfl Tryd.func10 (by kernel_rfl) rfl #[.int .u8 6, .int .i32 2147483647, .int .i32 1] rfl (by (try simp only [List.map_toArray, List.map_cons, List.map_nil]); first | done | rfl | (simp only [List.length_drop, List.length_take]; rfl)) ?_; (with_reducible refine (word_Apply.calls k 6 2147483647 1 t122 t123 _ A1.out).mono ?_); rintro e w' ⟨rfl, ⟨nd, rfl⟩⟩; refine ⟨_, rfl, ?_⟩) | ((with_reducible refine gate_callee (f := 10) rfl ?_); refine goesL_ (some 12) rfl rfl Tryd.func10 (by kernel_rfl) rfl #[.int .u8 10, .int .i32 (-7), .int .i32 2] rfl (by (try simp only [List.map_toArray, List.map_cons, List.map_nil]); first | done | rfl | (simp only [List.length_drop, List.length_take]; rfl)) ?_; (with_reducible refine (word_Apply.calls k 10 (-7) 2 t124 t125 _ A2.out).mono ?_); rintro e w' ⟨rfl, ⟨nd, rfl⟩⟩; refine ⟨_, rfl, ?_⟩) | ((with_reducible refine gate_callee (f := 10) rfl ?_); refine goesL_ (some 16) rfl rfl Tryd.func10 (by kernel_rfl) rfl #[.int .u8 15, .int .i32 (-7), .int .i32 33] rfl (by (try simp only [List.map_toArray, List.map_cons, List.map_nil]); first | done | rfl | (simp only [List.length_drop, List.length_take]; rfl)) ?_; (with_reducible refine (word_Apply.calls k 15 (-7) 33 t126 t127 _ A3.out).mono ?_); rintro e w' ⟨rfl, ⟨nd, rfl⟩⟩; refine ⟨_, rfl, ?_⟩))
        go_ret
        exact ⟨by first | rfl | (simp; done) | (simp [*]; done), by repeat (first | exact Drawn0.refl _ | apply Drawn0.step)⟩
    · rw [if_neg c5] at H
      have c5b0 : (t125 == 0) = false := beq_eq_false_iff_ne.mpr c5
      have c5b1 : (t125 != 0) = true := bne_iff_ne.mpr c5
      obtain rfl := Option.some.inj H
      go_enter Tryd.func7, Tryd.ntmps7
      go_wp2_with (first | ((with_reducible refine gate_callee (f := 10) rfl ?_); refine goesL_ (some 8) rfl rfl Tryd.func10 (by kernel_rfl) rfl #[.int .u8 6, .int .i32 2147483647, .int .i32 1] rfl (by (try simp only [List.map_toArray, List.map_cons, List.map_nil]); first | done | rfl | (simp only [List.length_drop, List.length_take]; rfl)) ?_; (with_reducible refine (word_Apply.calls k 6 2147483647 1 t122 t123 _ A1.out).mono ?_); rintro e w' ⟨rfl, ⟨nd, rfl⟩⟩; refine ⟨_, rfl, ?_⟩) | ((with_reducible refine gate_callee (f := 10) rfl ?_); refine goesL_ (some 12) rfl rfl Tryd.func10 (by kernel_rfl) rfl #[.int .u8 10, .int .i32 (-7), .int .i32 2] rfl (by (try simp only [List.map_toArray, List.map_cons, List.map_nil]); first | done | rfl | (simp only [List.length_drop, List.length_take]; rfl)) ?_; (with_reducible refine (word_Apply.calls k 10 (-7) 2 t124 t125 _ A2.out).mono ?_); rintro e w' ⟨rfl, ⟨nd, rfl⟩⟩; refine ⟨_, rfl, ?_⟩) | ((with_reducible refine gate_callee (f := 10) rfl ?_); refine goesL_ (some 16) rfl rfl Tryd.func10 (by kernel_rfl) rfl #[.int .u8 15, .int .i32 (-7), .int .i32 33] rfl (by (try simp only [List.map_toArray, List.map_cons, List.map_nil]); first | done | rfl | (simp only [List.length_drop, List.length_take]; rfl)) ?_; (with_reducible refine (word_Apply.calls k 15 (-7) 33 t126 t127 _ A3.out).mono ?_); rintro e w' ⟨rfl, ⟨nd, rfl⟩⟩; refine ⟨_, rfl, ?_⟩))
      go_ret
      exact ⟨by first | rfl | (simp; done) | (simp [*]; done), by repeat (first | exact Drawn0.refl _ | apply Drawn0.step)⟩
  · rw [if_neg c4] at H
    have c4b0 : (t123 == 0) = false := beq_eq_false_iff_ne.mpr c4
    have c4b1 : (t123 != 0) = true := bne_iff_ne.mpr c4
    obtain rfl := Option.some.inj H
    go_enter Tryd.func7, Tryd.ntmps7
    go_wp2_with (first | ((with_reducible refine gate_callee (f := 10) rfl ?_); refine goesL_ (some 8) rfl rfl Tryd.func10 (by kernel_rfl) rfl #[.int .u8 6, .int .i32 2147483647, .int .i32 1] rfl (by (try simp only [List.map_toArray, List.map_cons, List.map_nil]); first | done | rfl | (simp only [List.length_drop, List.length_take]; rfl)) ?_; (with_reducible refine (word_Apply.calls k 6 2147483647 1 t122 t123 _ A1.out).mono ?_); rintro e w' ⟨rfl, ⟨nd, rfl⟩⟩; refine ⟨_, rfl, ?_⟩) | ((with_reducible refine gate_callee (f := 10) rfl ?_); refine goesL_ (some 12) rfl rfl Tryd.func10 (by kernel_rfl) rfl #[.int .u8 10, .int .i32 (-7), .int .i32 2] rfl (by (try simp only [List.map_toArray, List.map_cons, List.map_nil]); first | done | rfl | (simp only [List.length_drop, List.length_take]; rfl)) ?_; (with_reducible refine (word_Apply.calls k 10 (-7) 2 t124 t125 _ A2.out).mono ?_); rintro e w' ⟨rfl, ⟨nd, rfl⟩⟩; refine ⟨_, rfl, ?_⟩) | ((with_reducible refine gate_callee (f := 10) rfl ?_); refine goesL_ (some 16) rfl rfl Tryd.func10 (by kernel_rfl) rfl #[.int .u8 15, .int .i32 (-7), .int .i32 33] rfl (by (try simp only [List.map_toArray, List.map_cons, List.map_nil]); first | done | rfl | (simp only [List.length_drop, List.length_take]; rfl)) ?_; (with_reducible refine (word_Apply.calls k 15 (-7) 33 t126 t127 _ A3.out).mono ?_); rintro e w' ⟨rfl, ⟨nd, rfl⟩⟩; refine ⟨_, rfl, ?_⟩))
    go_ret
    exact ⟨by first | rfl | (simp; done) | (simp [*]; done), by repeat (first | exact Drawn0.refl _ | apply Drawn0.step)⟩

-- NOT PRINTED: function 11 (word_entry)

-- NOT PRINTED: function 8 (word_Symbol)

-- NOT PRINTED: function 9 (word_Level)

-- NOT PRINTED: function 3 (ontimelaw03_WordSymbols)

end Go.Proofs.YtoalomjmmlnclaaDoor.PWordSymbols
