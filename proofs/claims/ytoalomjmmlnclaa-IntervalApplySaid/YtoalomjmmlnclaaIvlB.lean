/- Contracts of interval.corners, once for each of the four functions that it is called with: the hull of the four values at the corners. -/
import Derived.Test.YtoalomjmmlnclaaIvlA
namespace Go.Proofs.Ytoalomjmmlnclaa.Ivl
open Go.RowKit Go.Proofs.Ytoalomjmmlnclaa.PIntervalApply Go.Proofs.YtoalomjmmlnclaaW.PrintWords Go.Proofs.YtoalomjmmlnclaaW.PrintLast
open Go.Proofs.Ytoalomjmmlnclaa.M
attribute [local go_sem] max2_int min2_int max_two min_two max_three min_three max_four min_four
set_option linter.unusedVariables false
set_option linter.unusedSimpArgs false

theorem idx0 (u v : Value) (w : World) : (Instr.index 81 (.agg #[u, v]) (.int .i64 0)).run Try.prog w = .ok u w := by simp [Instr.index, go_sem]
theorem idx1 (u v : Value) (w : World) : (Instr.index 81 (.agg #[u, v]) (.int .i64 1)).run Try.prog w = .ok v w := by simp [Instr.index, go_sem]
attribute [local go_sem] idx0 idx1
set_option maxHeartbeats 800000 in
theorem f54 (a b r : Int) (ha : I32 a) (hb : I32 b) (h : a + b = r) (w : World) : Calls Try.prog 54 #[.int .i64 a, .int .i64 b] w fun e w' => e = .returned (.int .i64 r) ∧ w = w' := by
  subst h
  unfold I32 at ha hb
  obtain ⟨a1, a2⟩ := ha
  obtain ⟨b1, b2⟩ := hb
  go_enter Try.func54, Try.ntmps54
  go_wp2
  go_ret
  exact ⟨by first | rfl | (simp; done) | (simp [*]; done), rfl⟩
set_option maxHeartbeats 800000 in
theorem f55 (a b r : Int) (ha : I32 a) (hb : I32 b) (h : a - b = r) (w : World) : Calls Try.prog 55 #[.int .i64 a, .int .i64 b] w fun e w' => e = .returned (.int .i64 r) ∧ w = w' := by
  subst h
  unfold I32 at ha hb
  obtain ⟨a1, a2⟩ := ha
  obtain ⟨b1, b2⟩ := hb
  go_enter Try.func55, Try.ntmps55
  go_wp2
  go_ret
  exact ⟨by first | rfl | (simp; done) | (simp [*]; done), rfl⟩
set_option maxHeartbeats 800000 in
theorem f56 (a b r : Int) (ha : I32 a) (hb : I32 b) (h : a * b = r) (w : World) : Calls Try.prog 56 #[.int .i64 a, .int .i64 b] w fun e w' => e = .returned (.int .i64 r) ∧ w = w' := by
  have hm := mul_bound ha hb
  obtain ⟨m1, m2⟩ := hm
  have e := w64 (x := a * b) (by omega)
  rw [h] at e
  go_enter Try.func56, Try.ntmps56
  go_wp2
  go_ret
  exact ⟨by first | rfl | (simp; done) | (simp [*]; done), rfl⟩
set_option maxHeartbeats 800000 in
theorem f79 (a b r : Int) (ha : I32 a) (hb : I32 b) (h0 : b ≠ 0) (h : a.tdiv b = r) (w : World) : Calls Try.prog 79 #[.int .i64 a, .int .i64 b] w fun e w' => e = .returned (.int .i64 r) ∧ w = w' := by
  have hm := tdiv_bound a b
  unfold I32 at ha hb
  have e := w64 (x := a.tdiv b) (by omega)
  have z : (b == 0) = false := beq_eq_false_iff_ne.2 h0
  go_enter Try.func79, Try.ntmps79
  go_wp2
  go_ret
  exact ⟨by first | rfl | (simp; done) | (simp [*]; done), rfl⟩
theorem f54w (a b r : Int) (ha : I32 a) (hb : I32 b) (h : a + b = r) (w : World) : Calls Try.prog 54 #[.int .i64 (wrap64 a), .int .i64 (wrap64 b)] w fun e w' => e = .returned (.int .i64 r) ∧ w = w' := by
  have e1 : wrap64 a = a := w64 (by unfold I32 at ha; omega)
  have e2 : wrap64 b = b := w64 (by unfold I32 at hb; omega)
  rw [e1, e2]; exact f54 a b r ha hb h w
theorem f55w (a b r : Int) (ha : I32 a) (hb : I32 b) (h : a - b = r) (w : World) : Calls Try.prog 55 #[.int .i64 (wrap64 a), .int .i64 (wrap64 b)] w fun e w' => e = .returned (.int .i64 r) ∧ w = w' := by
  have e1 : wrap64 a = a := w64 (by unfold I32 at ha; omega)
  have e2 : wrap64 b = b := w64 (by unfold I32 at hb; omega)
  rw [e1, e2]; exact f55 a b r ha hb h w
theorem f56w (a b r : Int) (ha : I32 a) (hb : I32 b) (h : a * b = r) (w : World) : Calls Try.prog 56 #[.int .i64 (wrap64 a), .int .i64 (wrap64 b)] w fun e w' => e = .returned (.int .i64 r) ∧ w = w' := by
  have e1 : wrap64 a = a := w64 (by unfold I32 at ha; omega)
  have e2 : wrap64 b = b := w64 (by unfold I32 at hb; omega)
  rw [e1, e2]; exact f56 a b r ha hb h w
theorem f79w (a b r : Int) (ha : I32 a) (hb : I32 b) (h0 : b ≠ 0) (h : a.tdiv b = r) (w : World) : Calls Try.prog 79 #[.int .i64 (wrap64 a), .int .i64 (wrap64 b)] w fun e w' => e = .returned (.int .i64 r) ∧ w = w' := by
  have e1 : wrap64 a = a := w64 (by unfold I32 at ha; omega)
  have e2 : wrap64 b = b := w64 (by unfold I32 at hb; omega)
  rw [e1, e2]; exact f79 a b r ha hb h0 h w

set_option maxHeartbeats 4000000 in
set_option maxRecDepth 100000 in
theorem corners54 (a b c d p q r s x y : Int) (ha : Aside0 (I32 a)) (hb : Aside0 (I32 b)) (hc : Aside0 (I32 c)) (hd : Aside0 (I32 d)) (k00 : Aside0 (a + c = p)) (k01 : Aside0 (a + d = q)) (k10 : Aside0 (b + c = r)) (k11 : Aside0 (b + d = s)) (kh : Aside0 (hull4 p q r s = (x, y))) (w : World) :
    Calls Try.prog 53 #[.agg #[.int .i32 a, .int .i32 b], .agg #[.int .i32 c, .int .i32 d], .func (.func 54) #[] #[]] w fun e w' => e = .returned (.agg #[.int .i32 x, .int .i32 y]) ∧ Below w.heap.size w w' := by
  have hu38 := Try.underlying38
  have HB := Aside0.mk (Below.refl w.heap.size w)
  go_enter Try.func53, Try.ntmps53
  go_wp2
  have B3 := Aside0.mk (show (((w.alloc (.cells #[.int .i32 a, .int .i32 b] 38)).alloc (.cells #[.int .i32 c, .int .i32 d] 38)).alloc (.cells #[.int .i32 0, .int .i32 0] 38)).heap[w.heap.size]? = some (.cells #[.int .i32 a, .int .i32 b] 38 (0, 0)) from blk_alloc (blk_alloc (blk_new _ _) _) _)
  have B4 := Aside0.mk (show (((w.alloc (.cells #[.int .i32 a, .int .i32 b] 38)).alloc (.cells #[.int .i32 c, .int .i32 d] 38)).alloc (.cells #[.int .i32 0, .int .i32 0] 38)).heap[w.heap.size + 1]? = some (.cells #[.int .i32 c, .int .i32 d] 38 (0, 0)) from by have h := blk_alloc (blk_new (w.alloc (.cells #[.int .i32 a, .int .i32 b] 38)) (.cells #[.int .i32 c, .int .i32 d] 38)) (.cells #[.int .i32 0, .int .i32 0] 38); simpa using h)
  have B6 := Aside0.mk (show (((w.alloc (.cells #[.int .i32 a, .int .i32 b] 38)).alloc (.cells #[.int .i32 c, .int .i32 d] 38)).alloc (.cells #[.int .i32 0, .int .i32 0] 38)).heap[w.heap.size + 1 + 1]? = some (.cells #[.int .i32 0, .int .i32 0] 38 (0, 0)) from by have h := blk_new ((w.alloc (.cells #[.int .i32 a, .int .i32 b] 38)).alloc (.cells #[.int .i32 c, .int .i32 d] 38)) (.cells #[.int .i32 0, .int .i32 0] 38); simpa using h)
  have G6 := Aside0.mk (show w.heap.size ≤ w.heap.size + 1 + 1 by omega)
  have HB := Aside0.mk (show Below w.heap.size w (((w.alloc (.cells #[.int .i32 a, .int .i32 b] 38)).alloc (.cells #[.int .i32 c, .int .i32 d] 38)).alloc (.cells #[.int .i32 0, .int .i32 0] 38)) from by repeat (first | (with_reducible first | exact HB.out | apply below_alloc | apply pw_below_drewN | apply below_drew1 | refine below_set ?_ G6.out) | exact HB.out))
  go_loopg [7, 17] 2 (fun kq v7 v17 w' => ∃ (l : List Int), ((kq = 2 ∧ v17 = .int .i64 0 ∧ l = []) ∨ (kq = 1 ∧ v17 = .int .i64 1 ∧ l = [p, q]) ∨ (kq = 0 ∧ v17 = .int .i64 2 ∧ l = [p, q, r, s])) ∧ Aside0 (Kd.R (Kd.int .i64) 2 w' w.heap.size (fun _ => True) v7 l) ∧ Aside0 (w'.heap[w.heap.size]? = some (.cells #[.int .i32 a, .int .i32 b] 38 (0, 0))) ∧ Aside0 (w'.heap[w.heap.size + 1]? = some (.cells #[.int .i32 c, .int .i32 d] 38 (0, 0))) ∧ Aside0 (w'.heap[w.heap.size + 1 + 1]? = some (.cells #[.int .i32 0, .int .i32 0] 38 (0, 0))) ∧ Aside0 (Below w.heap.size w w'))
  case atStart => exact ⟨[], .inl ⟨rfl, rfl, rfl⟩, ⟨Kd.R_nil _ _ _ _ _⟩, B3, B4, B6, HB⟩
  case round =>
    clear B3 B4 B6 HB
    obtain ⟨l, hk, HO, B3, B4, B6, HB⟩ := hrel
    have c40 : wr.cell? ⟨w.heap.size + 1, 0, none⟩ = some (.int .i32 c) := (blk_cell B4.out 0).trans rfl
    have c41 : wr.cell? ⟨w.heap.size + 1, 1, none⟩ = some (.int .i32 d) := (blk_cell B4.out 1).trans rfl
    rcases hk with ⟨rfl, rfl, rfl⟩ | ⟨rfl, rfl, rfl⟩ | ⟨rfl, rfl, rfl⟩
    · go_wp2
      go_loopg [7, 25] 2 (fun kq v7 v25 w' => ∃ (l : List Int), ((kq = 2 ∧ v25 = .int .i64 0 ∧ l = []) ∨ (kq = 1 ∧ v25 = .int .i64 1 ∧ l = [p]) ∨ (kq = 0 ∧ v25 = .int .i64 2 ∧ l = [p, q])) ∧ Aside0 (Kd.R (Kd.int .i64) 2 w' w.heap.size (fun _ => True) v7 l) ∧ Aside0 (w'.heap[w.heap.size]? = some (.cells #[.int .i32 a, .int .i32 b] 38 (0, 0))) ∧ Aside0 (w'.heap[w.heap.size + 1]? = some (.cells #[.int .i32 c, .int .i32 d] 38 (0, 0))) ∧ Aside0 (w'.heap[w.heap.size + 1 + 1]? = some (.cells #[.int .i32 0, .int .i32 0] 38 (0, 0))) ∧ Aside0 (Below w.heap.size w w'))
      case atStart => exact ⟨[], .inl ⟨rfl, rfl, rfl⟩, HO, B3, B4, B6, HB⟩
      case round =>
        clear c40 c41 B3 B4 B6 HB HO
        obtain ⟨l, hk, HO, B3, B4, B6, HB⟩ := hrel
        rcases hk with ⟨rfl, rfl, rfl⟩ | ⟨rfl, rfl, rfl⟩ | ⟨rfl, rfl, rfl⟩
        · go_wp2_with (first | (go_at_call 54; (with_reducible refine (f54w a c p ha.out hc.out k00.out _).mono ?_); rintro e w' ⟨rfl, rfl⟩) | ((with_reducible refine gate_builtin (b := .append) (xs := #[.tmp 28, .tmp 35]) rfl ?_); at_builtin; refine Kd.R_append (Kd.int .i64) (w0 := w) w.heap.size rfl (.tmp 28) (.tmp 35) 75 2 (.int .i64 0) 8 rfl Try.underlying75 info2 rfl (by decide) (by omega) _ [] p [.int .i64 p] (fun _ => True) (fun _ => False) rfl rfl ?aP (fun _ hk => hk.elim) ?aF ?aO ?aB ?aS ?aL ?_; (case aP => exact rfl); (case aF => exact (fun _ _ => trivial)); (case aO => exact (by (with_reducible repeat (first | apply Kd.R_alloc | apply Kd.R_drewN | apply Kd.R_drew)); exact HO.out)); (case aB => exact (by repeat (first | (with_reducible first | exact HB.out | apply below_alloc | apply pw_below_drewN | apply below_drew1 | refine below_set ?_ G6.out) | exact HB.out))); (case aS => exact (below_size (by repeat (first | (with_reducible first | exact HB.out | apply below_alloc | apply pw_below_drewN | apply below_drew1 | refine below_set ?_ G6.out) | exact HB.out)))); (case aL => simp); intro v1 w3 ho hb hg hat; have n0 := Aside0.mk (blk_grown (by (with_reducible repeat (first | refine blk_drewN ?_ _ | refine blk_drew ?_ | refine blk_alloc ?_ _)); exact B3.out) hg (Kd.R_ne HO.out B3.out (by decide))); have n1 := Aside0.mk (blk_grown (by (with_reducible repeat (first | refine blk_drewN ?_ _ | refine blk_drew ?_ | refine blk_alloc ?_ _)); exact B4.out) hg (Kd.R_ne HO.out B4.out (by decide))); have n2 := Aside0.mk (blk_grown (by (with_reducible repeat (first | refine blk_drewN ?_ _ | refine blk_drew ?_ | refine blk_alloc ?_ _)); exact B6.out) hg (Kd.R_ne HO.out B6.out (by decide))); have n3 := Aside0.mk ho; have n4 := Aside0.mk hb; clear B3 B4 B6 HO HB; have B3 := n0; have B4 := n1; have B6 := n2; have HO := n3; have HB := n4; clear n0 n1 n2 n3 n4 ho hb hg hat))
          go_roundg 1
          case measure => omega
          case rel => exact ⟨_, .inr (.inl ⟨rfl, rfl, rfl⟩), HO, B3, B4, B6, HB⟩
        · go_wp2_with (first | (go_at_call 54; (with_reducible refine (f54w a d q ha.out hd.out k01.out _).mono ?_); rintro e w' ⟨rfl, rfl⟩) | ((with_reducible refine gate_builtin (b := .append) (xs := #[.tmp 28, .tmp 35]) rfl ?_); at_builtin; refine Kd.R_append (Kd.int .i64) (w0 := w) w.heap.size rfl (.tmp 28) (.tmp 35) 75 2 (.int .i64 0) 8 rfl Try.underlying75 info2 rfl (by decide) (by omega) _ [p] q [.int .i64 q] (fun _ => True) (fun _ => False) rfl rfl ?aP (fun _ hk => hk.elim) ?aF ?aO ?aB ?aS ?aL ?_; (case aP => exact rfl); (case aF => exact (fun _ _ => trivial)); (case aO => exact (by (with_reducible repeat (first | apply Kd.R_alloc | apply Kd.R_drewN | apply Kd.R_drew)); exact HO.out)); (case aB => exact (by repeat (first | (with_reducible first | exact HB.out | apply below_alloc | apply pw_below_drewN | apply below_drew1 | refine below_set ?_ G6.out) | exact HB.out))); (case aS => exact (below_size (by repeat (first | (with_reducible first | exact HB.out | apply below_alloc | apply pw_below_drewN | apply below_drew1 | refine below_set ?_ G6.out) | exact HB.out)))); (case aL => simp); intro v1 w3 ho hb hg hat; have n0 := Aside0.mk (blk_grown (by (with_reducible repeat (first | refine blk_drewN ?_ _ | refine blk_drew ?_ | refine blk_alloc ?_ _)); exact B3.out) hg (Kd.R_ne HO.out B3.out (by decide))); have n1 := Aside0.mk (blk_grown (by (with_reducible repeat (first | refine blk_drewN ?_ _ | refine blk_drew ?_ | refine blk_alloc ?_ _)); exact B4.out) hg (Kd.R_ne HO.out B4.out (by decide))); have n2 := Aside0.mk (blk_grown (by (with_reducible repeat (first | refine blk_drewN ?_ _ | refine blk_drew ?_ | refine blk_alloc ?_ _)); exact B6.out) hg (Kd.R_ne HO.out B6.out (by decide))); have n3 := Aside0.mk ho; have n4 := Aside0.mk hb; clear B3 B4 B6 HO HB; have B3 := n0; have B4 := n1; have B6 := n2; have HO := n3; have HB := n4; clear n0 n1 n2 n3 n4 ho hb hg hat))
          go_roundg 0
          case measure => omega
          case rel => exact ⟨_, .inr (.inr ⟨rfl, rfl, rfl⟩), HO, B3, B4, B6, HB⟩
        · go_wp2
          go_roundg 1
          case measure => omega
          case rel => exact ⟨_, .inr (.inl ⟨rfl, rfl, rfl⟩), HO, B3, B4, B6, HB⟩
    · go_wp2
      go_loopg [7, 25] 2 (fun kq v7 v25 w' => ∃ (l : List Int), ((kq = 2 ∧ v25 = .int .i64 0 ∧ l = [p, q]) ∨ (kq = 1 ∧ v25 = .int .i64 1 ∧ l = [p, q, r]) ∨ (kq = 0 ∧ v25 = .int .i64 2 ∧ l = [p, q, r, s])) ∧ Aside0 (Kd.R (Kd.int .i64) 2 w' w.heap.size (fun _ => True) v7 l) ∧ Aside0 (w'.heap[w.heap.size]? = some (.cells #[.int .i32 a, .int .i32 b] 38 (0, 0))) ∧ Aside0 (w'.heap[w.heap.size + 1]? = some (.cells #[.int .i32 c, .int .i32 d] 38 (0, 0))) ∧ Aside0 (w'.heap[w.heap.size + 1 + 1]? = some (.cells #[.int .i32 0, .int .i32 0] 38 (0, 0))) ∧ Aside0 (Below w.heap.size w w'))
      case atStart => exact ⟨[p, q], .inl ⟨rfl, rfl, rfl⟩, HO, B3, B4, B6, HB⟩
      case round =>
        clear c40 c41 B3 B4 B6 HB HO
        obtain ⟨l, hk, HO, B3, B4, B6, HB⟩ := hrel
        rcases hk with ⟨rfl, rfl, rfl⟩ | ⟨rfl, rfl, rfl⟩ | ⟨rfl, rfl, rfl⟩
        · go_wp2_with (first | (go_at_call 54; (with_reducible refine (f54w b c r hb.out hc.out k10.out _).mono ?_); rintro e w' ⟨rfl, rfl⟩) | ((with_reducible refine gate_builtin (b := .append) (xs := #[.tmp 28, .tmp 35]) rfl ?_); at_builtin; refine Kd.R_append (Kd.int .i64) (w0 := w) w.heap.size rfl (.tmp 28) (.tmp 35) 75 2 (.int .i64 0) 8 rfl Try.underlying75 info2 rfl (by decide) (by omega) _ [p, q] r [.int .i64 r] (fun _ => True) (fun _ => False) rfl rfl ?aP (fun _ hk => hk.elim) ?aF ?aO ?aB ?aS ?aL ?_; (case aP => exact rfl); (case aF => exact (fun _ _ => trivial)); (case aO => exact (by (with_reducible repeat (first | apply Kd.R_alloc | apply Kd.R_drewN | apply Kd.R_drew)); exact HO.out)); (case aB => exact (by repeat (first | (with_reducible first | exact HB.out | apply below_alloc | apply pw_below_drewN | apply below_drew1 | refine below_set ?_ G6.out) | exact HB.out))); (case aS => exact (below_size (by repeat (first | (with_reducible first | exact HB.out | apply below_alloc | apply pw_below_drewN | apply below_drew1 | refine below_set ?_ G6.out) | exact HB.out)))); (case aL => simp); intro v1 w3 ho hb hg hat; have n0 := Aside0.mk (blk_grown (by (with_reducible repeat (first | refine blk_drewN ?_ _ | refine blk_drew ?_ | refine blk_alloc ?_ _)); exact B3.out) hg (Kd.R_ne HO.out B3.out (by decide))); have n1 := Aside0.mk (blk_grown (by (with_reducible repeat (first | refine blk_drewN ?_ _ | refine blk_drew ?_ | refine blk_alloc ?_ _)); exact B4.out) hg (Kd.R_ne HO.out B4.out (by decide))); have n2 := Aside0.mk (blk_grown (by (with_reducible repeat (first | refine blk_drewN ?_ _ | refine blk_drew ?_ | refine blk_alloc ?_ _)); exact B6.out) hg (Kd.R_ne HO.out B6.out (by decide))); have n3 := Aside0.mk ho; have n4 := Aside0.mk hb; clear B3 B4 B6 HO HB; have B3 := n0; have B4 := n1; have B6 := n2; have HO := n3; have HB := n4; clear n0 n1 n2 n3 n4 ho hb hg hat))
          go_roundg 1
          case measure => omega
          case rel => exact ⟨_, .inr (.inl ⟨rfl, rfl, rfl⟩), HO, B3, B4, B6, HB⟩
        · go_wp2_with (first | (go_at_call 54; (with_reducible refine (f54w b d s hb.out hd.out k11.out _).mono ?_); rintro e w' ⟨rfl, rfl⟩) | ((with_reducible refine gate_builtin (b := .append) (xs := #[.tmp 28, .tmp 35]) rfl ?_); at_builtin; refine Kd.R_append (Kd.int .i64) (w0 := w) w.heap.size rfl (.tmp 28) (.tmp 35) 75 2 (.int .i64 0) 8 rfl Try.underlying75 info2 rfl (by decide) (by omega) _ [p, q, r] s [.int .i64 s] (fun _ => True) (fun _ => False) rfl rfl ?aP (fun _ hk => hk.elim) ?aF ?aO ?aB ?aS ?aL ?_; (case aP => exact rfl); (case aF => exact (fun _ _ => trivial)); (case aO => exact (by (with_reducible repeat (first | apply Kd.R_alloc | apply Kd.R_drewN | apply Kd.R_drew)); exact HO.out)); (case aB => exact (by repeat (first | (with_reducible first | exact HB.out | apply below_alloc | apply pw_below_drewN | apply below_drew1 | refine below_set ?_ G6.out) | exact HB.out))); (case aS => exact (below_size (by repeat (first | (with_reducible first | exact HB.out | apply below_alloc | apply pw_below_drewN | apply below_drew1 | refine below_set ?_ G6.out) | exact HB.out)))); (case aL => simp); intro v1 w3 ho hb hg hat; have n0 := Aside0.mk (blk_grown (by (with_reducible repeat (first | refine blk_drewN ?_ _ | refine blk_drew ?_ | refine blk_alloc ?_ _)); exact B3.out) hg (Kd.R_ne HO.out B3.out (by decide))); have n1 := Aside0.mk (blk_grown (by (with_reducible repeat (first | refine blk_drewN ?_ _ | refine blk_drew ?_ | refine blk_alloc ?_ _)); exact B4.out) hg (Kd.R_ne HO.out B4.out (by decide))); have n2 := Aside0.mk (blk_grown (by (with_reducible repeat (first | refine blk_drewN ?_ _ | refine blk_drew ?_ | refine blk_alloc ?_ _)); exact B6.out) hg (Kd.R_ne HO.out B6.out (by decide))); have n3 := Aside0.mk ho; have n4 := Aside0.mk hb; clear B3 B4 B6 HO HB; have B3 := n0; have B4 := n1; have B6 := n2; have HO := n3; have HB := n4; clear n0 n1 n2 n3 n4 ho hb hg hat))
          go_roundg 0
          case measure => omega
          case rel => exact ⟨_, .inr (.inr ⟨rfl, rfl, rfl⟩), HO, B3, B4, B6, HB⟩
        · go_wp2
          go_roundg 0
          case measure => omega
          case rel => exact ⟨_, .inr (.inr ⟨rfl, rfl, rfl⟩), HO, B3, B4, B6, HB⟩
    · obtain ⟨A7, n7, e7, hn7, hC7⟩ := Kd.R_reads HO.out
      subst e7
      go_wp2_with (go_at_call 78; (refine (interval_hull.calls 6 A7 n7 [p, q, r, s] x y _ hC7 hn7 (by rw [hull_f4 0]; exact congrArg some kh.out)).mono ?_); rintro e w' ⟨rfl, hb⟩; have B6' := Aside0.mk (blk_below B6.out hb); have c60 : w'.cell? ⟨w.heap.size + 1 + 1, 0, none⟩ = some (.int .i32 0) := (blk_cell B6'.out 0).trans rfl; have c61 : w'.cell? ⟨w.heap.size + 1 + 1, 1, none⟩ = some (.int .i32 0) := (blk_cell B6'.out 1).trans rfl; have f60 := blk_frozen B6'.out 0; have f61 := blk_frozen B6'.out 1; have HB' := Aside0.mk (below_step HB.out hb); clear HB; have HB := HB'; clear HB' hb)
      refine bodyPost_ret (results_cell_row rfl _ _ (w.heap.size + 1 + 1) 38 #[.int .i32 x, .int .i32 y] (0, 0) _ rfl (by refine blk_put (cs := #[.int .i32 x, .int .i32 0]) ?_ 1 _ rfl; refine blk_put (cs := #[.int .i32 0, .int .i32 0]) ?_ 0 _ rfl; exact B6'.out) Try.underlying38 rfl (by kernel_rfl)) rfl ⟨rfl, by repeat (first | (with_reducible first | exact HB.out | apply below_alloc | apply pw_below_drewN | apply below_drew1 | refine below_set ?_ G6.out) | exact HB.out)⟩

set_option maxHeartbeats 4000000 in
set_option maxRecDepth 100000 in
theorem corners55 (a b c d p q r s x y : Int) (ha : Aside0 (I32 a)) (hb : Aside0 (I32 b)) (hc : Aside0 (I32 c)) (hd : Aside0 (I32 d)) (k00 : Aside0 (a - c = p)) (k01 : Aside0 (a - d = q)) (k10 : Aside0 (b - c = r)) (k11 : Aside0 (b - d = s)) (kh : Aside0 (hull4 p q r s = (x, y))) (w : World) :
    Calls Try.prog 53 #[.agg #[.int .i32 a, .int .i32 b], .agg #[.int .i32 c, .int .i32 d], .func (.func 55) #[] #[]] w fun e w' => e = .returned (.agg #[.int .i32 x, .int .i32 y]) ∧ Below w.heap.size w w' := by
  have hu38 := Try.underlying38
  have HB := Aside0.mk (Below.refl w.heap.size w)
  go_enter Try.func53, Try.ntmps53
  go_wp2
  have B3 := Aside0.mk (show (((w.alloc (.cells #[.int .i32 a, .int .i32 b] 38)).alloc (.cells #[.int .i32 c, .int .i32 d] 38)).alloc (.cells #[.int .i32 0, .int .i32 0] 38)).heap[w.heap.size]? = some (.cells #[.int .i32 a, .int .i32 b] 38 (0, 0)) from blk_alloc (blk_alloc (blk_new _ _) _) _)
  have B4 := Aside0.mk (show (((w.alloc (.cells #[.int .i32 a, .int .i32 b] 38)).alloc (.cells #[.int .i32 c, .int .i32 d] 38)).alloc (.cells #[.int .i32 0, .int .i32 0] 38)).heap[w.heap.size + 1]? = some (.cells #[.int .i32 c, .int .i32 d] 38 (0, 0)) from by have h := blk_alloc (blk_new (w.alloc (.cells #[.int .i32 a, .int .i32 b] 38)) (.cells #[.int .i32 c, .int .i32 d] 38)) (.cells #[.int .i32 0, .int .i32 0] 38); simpa using h)
  have B6 := Aside0.mk (show (((w.alloc (.cells #[.int .i32 a, .int .i32 b] 38)).alloc (.cells #[.int .i32 c, .int .i32 d] 38)).alloc (.cells #[.int .i32 0, .int .i32 0] 38)).heap[w.heap.size + 1 + 1]? = some (.cells #[.int .i32 0, .int .i32 0] 38 (0, 0)) from by have h := blk_new ((w.alloc (.cells #[.int .i32 a, .int .i32 b] 38)).alloc (.cells #[.int .i32 c, .int .i32 d] 38)) (.cells #[.int .i32 0, .int .i32 0] 38); simpa using h)
  have G6 := Aside0.mk (show w.heap.size ≤ w.heap.size + 1 + 1 by omega)
  have HB := Aside0.mk (show Below w.heap.size w (((w.alloc (.cells #[.int .i32 a, .int .i32 b] 38)).alloc (.cells #[.int .i32 c, .int .i32 d] 38)).alloc (.cells #[.int .i32 0, .int .i32 0] 38)) from by repeat (first | (with_reducible first | exact HB.out | apply below_alloc | apply pw_below_drewN | apply below_drew1 | refine below_set ?_ G6.out) | exact HB.out))
  go_loopg [7, 17] 2 (fun kq v7 v17 w' => ∃ (l : List Int), ((kq = 2 ∧ v17 = .int .i64 0 ∧ l = []) ∨ (kq = 1 ∧ v17 = .int .i64 1 ∧ l = [p, q]) ∨ (kq = 0 ∧ v17 = .int .i64 2 ∧ l = [p, q, r, s])) ∧ Aside0 (Kd.R (Kd.int .i64) 2 w' w.heap.size (fun _ => True) v7 l) ∧ Aside0 (w'.heap[w.heap.size]? = some (.cells #[.int .i32 a, .int .i32 b] 38 (0, 0))) ∧ Aside0 (w'.heap[w.heap.size + 1]? = some (.cells #[.int .i32 c, .int .i32 d] 38 (0, 0))) ∧ Aside0 (w'.heap[w.heap.size + 1 + 1]? = some (.cells #[.int .i32 0, .int .i32 0] 38 (0, 0))) ∧ Aside0 (Below w.heap.size w w'))
  case atStart => exact ⟨[], .inl ⟨rfl, rfl, rfl⟩, ⟨Kd.R_nil _ _ _ _ _⟩, B3, B4, B6, HB⟩
  case round =>
    clear B3 B4 B6 HB
    obtain ⟨l, hk, HO, B3, B4, B6, HB⟩ := hrel
    have c40 : wr.cell? ⟨w.heap.size + 1, 0, none⟩ = some (.int .i32 c) := (blk_cell B4.out 0).trans rfl
    have c41 : wr.cell? ⟨w.heap.size + 1, 1, none⟩ = some (.int .i32 d) := (blk_cell B4.out 1).trans rfl
    rcases hk with ⟨rfl, rfl, rfl⟩ | ⟨rfl, rfl, rfl⟩ | ⟨rfl, rfl, rfl⟩
    · go_wp2
      go_loopg [7, 25] 2 (fun kq v7 v25 w' => ∃ (l : List Int), ((kq = 2 ∧ v25 = .int .i64 0 ∧ l = []) ∨ (kq = 1 ∧ v25 = .int .i64 1 ∧ l = [p]) ∨ (kq = 0 ∧ v25 = .int .i64 2 ∧ l = [p, q])) ∧ Aside0 (Kd.R (Kd.int .i64) 2 w' w.heap.size (fun _ => True) v7 l) ∧ Aside0 (w'.heap[w.heap.size]? = some (.cells #[.int .i32 a, .int .i32 b] 38 (0, 0))) ∧ Aside0 (w'.heap[w.heap.size + 1]? = some (.cells #[.int .i32 c, .int .i32 d] 38 (0, 0))) ∧ Aside0 (w'.heap[w.heap.size + 1 + 1]? = some (.cells #[.int .i32 0, .int .i32 0] 38 (0, 0))) ∧ Aside0 (Below w.heap.size w w'))
      case atStart => exact ⟨[], .inl ⟨rfl, rfl, rfl⟩, HO, B3, B4, B6, HB⟩
      case round =>
        clear c40 c41 B3 B4 B6 HB HO
        obtain ⟨l, hk, HO, B3, B4, B6, HB⟩ := hrel
        rcases hk with ⟨rfl, rfl, rfl⟩ | ⟨rfl, rfl, rfl⟩ | ⟨rfl, rfl, rfl⟩
        · go_wp2_with (first | (go_at_call 55; (with_reducible refine (f55w a c p ha.out hc.out k00.out _).mono ?_); rintro e w' ⟨rfl, rfl⟩) | ((with_reducible refine gate_builtin (b := .append) (xs := #[.tmp 28, .tmp 35]) rfl ?_); at_builtin; refine Kd.R_append (Kd.int .i64) (w0 := w) w.heap.size rfl (.tmp 28) (.tmp 35) 75 2 (.int .i64 0) 8 rfl Try.underlying75 info2 rfl (by decide) (by omega) _ [] p [.int .i64 p] (fun _ => True) (fun _ => False) rfl rfl ?aP (fun _ hk => hk.elim) ?aF ?aO ?aB ?aS ?aL ?_; (case aP => exact rfl); (case aF => exact (fun _ _ => trivial)); (case aO => exact (by (with_reducible repeat (first | apply Kd.R_alloc | apply Kd.R_drewN | apply Kd.R_drew)); exact HO.out)); (case aB => exact (by repeat (first | (with_reducible first | exact HB.out | apply below_alloc | apply pw_below_drewN | apply below_drew1 | refine below_set ?_ G6.out) | exact HB.out))); (case aS => exact (below_size (by repeat (first | (with_reducible first | exact HB.out | apply below_alloc | apply pw_below_drewN | apply below_drew1 | refine below_set ?_ G6.out) | exact HB.out)))); (case aL => simp); intro v1 w3 ho hb hg hat; have n0 := Aside0.mk (blk_grown (by (with_reducible repeat (first | refine blk_drewN ?_ _ | refine blk_drew ?_ | refine blk_alloc ?_ _)); exact B3.out) hg (Kd.R_ne HO.out B3.out (by decide))); have n1 := Aside0.mk (blk_grown (by (with_reducible repeat (first | refine blk_drewN ?_ _ | refine blk_drew ?_ | refine blk_alloc ?_ _)); exact B4.out) hg (Kd.R_ne HO.out B4.out (by decide))); have n2 := Aside0.mk (blk_grown (by (with_reducible repeat (first | refine blk_drewN ?_ _ | refine blk_drew ?_ | refine blk_alloc ?_ _)); exact B6.out) hg (Kd.R_ne HO.out B6.out (by decide))); have n3 := Aside0.mk ho; have n4 := Aside0.mk hb; clear B3 B4 B6 HO HB; have B3 := n0; have B4 := n1; have B6 := n2; have HO := n3; have HB := n4; clear n0 n1 n2 n3 n4 ho hb hg hat))
          go_roundg 1
          case measure => omega
          case rel => exact ⟨_, .inr (.inl ⟨rfl, rfl, rfl⟩), HO, B3, B4, B6, HB⟩
        · go_wp2_with (first | (go_at_call 55; (with_reducible refine (f55w a d q ha.out hd.out k01.out _).mono ?_); rintro e w' ⟨rfl, rfl⟩) | ((with_reducible refine gate_builtin (b := .append) (xs := #[.tmp 28, .tmp 35]) rfl ?_); at_builtin; refine Kd.R_append (Kd.int .i64) (w0 := w) w.heap.size rfl (.tmp 28) (.tmp 35) 75 2 (.int .i64 0) 8 rfl Try.underlying75 info2 rfl (by decide) (by omega) _ [p] q [.int .i64 q] (fun _ => True) (fun _ => False) rfl rfl ?aP (fun _ hk => hk.elim) ?aF ?aO ?aB ?aS ?aL ?_; (case aP => exact rfl); (case aF => exact (fun _ _ => trivial)); (case aO => exact (by (with_reducible repeat (first | apply Kd.R_alloc | apply Kd.R_drewN | apply Kd.R_drew)); exact HO.out)); (case aB => exact (by repeat (first | (with_reducible first | exact HB.out | apply below_alloc | apply pw_below_drewN | apply below_drew1 | refine below_set ?_ G6.out) | exact HB.out))); (case aS => exact (below_size (by repeat (first | (with_reducible first | exact HB.out | apply below_alloc | apply pw_below_drewN | apply below_drew1 | refine below_set ?_ G6.out) | exact HB.out)))); (case aL => simp); intro v1 w3 ho hb hg hat; have n0 := Aside0.mk (blk_grown (by (with_reducible repeat (first | refine blk_drewN ?_ _ | refine blk_drew ?_ | refine blk_alloc ?_ _)); exact B3.out) hg (Kd.R_ne HO.out B3.out (by decide))); have n1 := Aside0.mk (blk_grown (by (with_reducible repeat (first | refine blk_drewN ?_ _ | refine blk_drew ?_ | refine blk_alloc ?_ _)); exact B4.out) hg (Kd.R_ne HO.out B4.out (by decide))); have n2 := Aside0.mk (blk_grown (by (with_reducible repeat (first | refine blk_drewN ?_ _ | refine blk_drew ?_ | refine blk_alloc ?_ _)); exact B6.out) hg (Kd.R_ne HO.out B6.out (by decide))); have n3 := Aside0.mk ho; have n4 := Aside0.mk hb; clear B3 B4 B6 HO HB; have B3 := n0; have B4 := n1; have B6 := n2; have HO := n3; have HB := n4; clear n0 n1 n2 n3 n4 ho hb hg hat))
          go_roundg 0
          case measure => omega
          case rel => exact ⟨_, .inr (.inr ⟨rfl, rfl, rfl⟩), HO, B3, B4, B6, HB⟩
        · go_wp2
          go_roundg 1
          case measure => omega
          case rel => exact ⟨_, .inr (.inl ⟨rfl, rfl, rfl⟩), HO, B3, B4, B6, HB⟩
    · go_wp2
      go_loopg [7, 25] 2 (fun kq v7 v25 w' => ∃ (l : List Int), ((kq = 2 ∧ v25 = .int .i64 0 ∧ l = [p, q]) ∨ (kq = 1 ∧ v25 = .int .i64 1 ∧ l = [p, q, r]) ∨ (kq = 0 ∧ v25 = .int .i64 2 ∧ l = [p, q, r, s])) ∧ Aside0 (Kd.R (Kd.int .i64) 2 w' w.heap.size (fun _ => True) v7 l) ∧ Aside0 (w'.heap[w.heap.size]? = some (.cells #[.int .i32 a, .int .i32 b] 38 (0, 0))) ∧ Aside0 (w'.heap[w.heap.size + 1]? = some (.cells #[.int .i32 c, .int .i32 d] 38 (0, 0))) ∧ Aside0 (w'.heap[w.heap.size + 1 + 1]? = some (.cells #[.int .i32 0, .int .i32 0] 38 (0, 0))) ∧ Aside0 (Below w.heap.size w w'))
      case atStart => exact ⟨[p, q], .inl ⟨rfl, rfl, rfl⟩, HO, B3, B4, B6, HB⟩
      case round =>
        clear c40 c41 B3 B4 B6 HB HO
        obtain ⟨l, hk, HO, B3, B4, B6, HB⟩ := hrel
        rcases hk with ⟨rfl, rfl, rfl⟩ | ⟨rfl, rfl, rfl⟩ | ⟨rfl, rfl, rfl⟩
        · go_wp2_with (first | (go_at_call 55; (with_reducible refine (f55w b c r hb.out hc.out k10.out _).mono ?_); rintro e w' ⟨rfl, rfl⟩) | ((with_reducible refine gate_builtin (b := .append) (xs := #[.tmp 28, .tmp 35]) rfl ?_); at_builtin; refine Kd.R_append (Kd.int .i64) (w0 := w) w.heap.size rfl (.tmp 28) (.tmp 35) 75 2 (.int .i64 0) 8 rfl Try.underlying75 info2 rfl (by decide) (by omega) _ [p, q] r [.int .i64 r] (fun _ => True) (fun _ => False) rfl rfl ?aP (fun _ hk => hk.elim) ?aF ?aO ?aB ?aS ?aL ?_; (case aP => exact rfl); (case aF => exact (fun _ _ => trivial)); (case aO => exact (by (with_reducible repeat (first | apply Kd.R_alloc | apply Kd.R_drewN | apply Kd.R_drew)); exact HO.out)); (case aB => exact (by repeat (first | (with_reducible first | exact HB.out | apply below_alloc | apply pw_below_drewN | apply below_drew1 | refine below_set ?_ G6.out) | exact HB.out))); (case aS => exact (below_size (by repeat (first | (with_reducible first | exact HB.out | apply below_alloc | apply pw_below_drewN | apply below_drew1 | refine below_set ?_ G6.out) | exact HB.out)))); (case aL => simp); intro v1 w3 ho hb hg hat; have n0 := Aside0.mk (blk_grown (by (with_reducible repeat (first | refine blk_drewN ?_ _ | refine blk_drew ?_ | refine blk_alloc ?_ _)); exact B3.out) hg (Kd.R_ne HO.out B3.out (by decide))); have n1 := Aside0.mk (blk_grown (by (with_reducible repeat (first | refine blk_drewN ?_ _ | refine blk_drew ?_ | refine blk_alloc ?_ _)); exact B4.out) hg (Kd.R_ne HO.out B4.out (by decide))); have n2 := Aside0.mk (blk_grown (by (with_reducible repeat (first | refine blk_drewN ?_ _ | refine blk_drew ?_ | refine blk_alloc ?_ _)); exact B6.out) hg (Kd.R_ne HO.out B6.out (by decide))); have n3 := Aside0.mk ho; have n4 := Aside0.mk hb; clear B3 B4 B6 HO HB; have B3 := n0; have B4 := n1; have B6 := n2; have HO := n3; have HB := n4; clear n0 n1 n2 n3 n4 ho hb hg hat))
          go_roundg 1
          case measure => omega
          case rel => exact ⟨_, .inr (.inl ⟨rfl, rfl, rfl⟩), HO, B3, B4, B6, HB⟩
        · go_wp2_with (first | (go_at_call 55; (with_reducible refine (f55w b d s hb.out hd.out k11.out _).mono ?_); rintro e w' ⟨rfl, rfl⟩) | ((with_reducible refine gate_builtin (b := .append) (xs := #[.tmp 28, .tmp 35]) rfl ?_); at_builtin; refine Kd.R_append (Kd.int .i64) (w0 := w) w.heap.size rfl (.tmp 28) (.tmp 35) 75 2 (.int .i64 0) 8 rfl Try.underlying75 info2 rfl (by decide) (by omega) _ [p, q, r] s [.int .i64 s] (fun _ => True) (fun _ => False) rfl rfl ?aP (fun _ hk => hk.elim) ?aF ?aO ?aB ?aS ?aL ?_; (case aP => exact rfl); (case aF => exact (fun _ _ => trivial)); (case aO => exact (by (with_reducible repeat (first | apply Kd.R_alloc | apply Kd.R_drewN | apply Kd.R_drew)); exact HO.out)); (case aB => exact (by repeat (first | (with_reducible first | exact HB.out | apply below_alloc | apply pw_below_drewN | apply below_drew1 | refine below_set ?_ G6.out) | exact HB.out))); (case aS => exact (below_size (by repeat (first | (with_reducible first | exact HB.out | apply below_alloc | apply pw_below_drewN | apply below_drew1 | refine below_set ?_ G6.out) | exact HB.out)))); (case aL => simp); intro v1 w3 ho hb hg hat; have n0 := Aside0.mk (blk_grown (by (with_reducible repeat (first | refine blk_drewN ?_ _ | refine blk_drew ?_ | refine blk_alloc ?_ _)); exact B3.out) hg (Kd.R_ne HO.out B3.out (by decide))); have n1 := Aside0.mk (blk_grown (by (with_reducible repeat (first | refine blk_drewN ?_ _ | refine blk_drew ?_ | refine blk_alloc ?_ _)); exact B4.out) hg (Kd.R_ne HO.out B4.out (by decide))); have n2 := Aside0.mk (blk_grown (by (with_reducible repeat (first | refine blk_drewN ?_ _ | refine blk_drew ?_ | refine blk_alloc ?_ _)); exact B6.out) hg (Kd.R_ne HO.out B6.out (by decide))); have n3 := Aside0.mk ho; have n4 := Aside0.mk hb; clear B3 B4 B6 HO HB; have B3 := n0; have B4 := n1; have B6 := n2; have HO := n3; have HB := n4; clear n0 n1 n2 n3 n4 ho hb hg hat))
          go_roundg 0
          case measure => omega
          case rel => exact ⟨_, .inr (.inr ⟨rfl, rfl, rfl⟩), HO, B3, B4, B6, HB⟩
        · go_wp2
          go_roundg 0
          case measure => omega
          case rel => exact ⟨_, .inr (.inr ⟨rfl, rfl, rfl⟩), HO, B3, B4, B6, HB⟩
    · obtain ⟨A7, n7, e7, hn7, hC7⟩ := Kd.R_reads HO.out
      subst e7
      go_wp2_with (go_at_call 78; (refine (interval_hull.calls 6 A7 n7 [p, q, r, s] x y _ hC7 hn7 (by rw [hull_f4 0]; exact congrArg some kh.out)).mono ?_); rintro e w' ⟨rfl, hb⟩; have B6' := Aside0.mk (blk_below B6.out hb); have c60 : w'.cell? ⟨w.heap.size + 1 + 1, 0, none⟩ = some (.int .i32 0) := (blk_cell B6'.out 0).trans rfl; have c61 : w'.cell? ⟨w.heap.size + 1 + 1, 1, none⟩ = some (.int .i32 0) := (blk_cell B6'.out 1).trans rfl; have f60 := blk_frozen B6'.out 0; have f61 := blk_frozen B6'.out 1; have HB' := Aside0.mk (below_step HB.out hb); clear HB; have HB := HB'; clear HB' hb)
      refine bodyPost_ret (results_cell_row rfl _ _ (w.heap.size + 1 + 1) 38 #[.int .i32 x, .int .i32 y] (0, 0) _ rfl (by refine blk_put (cs := #[.int .i32 x, .int .i32 0]) ?_ 1 _ rfl; refine blk_put (cs := #[.int .i32 0, .int .i32 0]) ?_ 0 _ rfl; exact B6'.out) Try.underlying38 rfl (by kernel_rfl)) rfl ⟨rfl, by repeat (first | (with_reducible first | exact HB.out | apply below_alloc | apply pw_below_drewN | apply below_drew1 | refine below_set ?_ G6.out) | exact HB.out)⟩

set_option maxHeartbeats 4000000 in
set_option maxRecDepth 100000 in
theorem corners56 (a b c d p q r s x y : Int) (ha : Aside0 (I32 a)) (hb : Aside0 (I32 b)) (hc : Aside0 (I32 c)) (hd : Aside0 (I32 d)) (k00 : Aside0 (a * c = p)) (k01 : Aside0 (a * d = q)) (k10 : Aside0 (b * c = r)) (k11 : Aside0 (b * d = s)) (kh : Aside0 (hull4 p q r s = (x, y))) (w : World) :
    Calls Try.prog 53 #[.agg #[.int .i32 a, .int .i32 b], .agg #[.int .i32 c, .int .i32 d], .func (.func 56) #[] #[]] w fun e w' => e = .returned (.agg #[.int .i32 x, .int .i32 y]) ∧ Below w.heap.size w w' := by
  have hu38 := Try.underlying38
  have HB := Aside0.mk (Below.refl w.heap.size w)
  go_enter Try.func53, Try.ntmps53
  go_wp2
  have B3 := Aside0.mk (show (((w.alloc (.cells #[.int .i32 a, .int .i32 b] 38)).alloc (.cells #[.int .i32 c, .int .i32 d] 38)).alloc (.cells #[.int .i32 0, .int .i32 0] 38)).heap[w.heap.size]? = some (.cells #[.int .i32 a, .int .i32 b] 38 (0, 0)) from blk_alloc (blk_alloc (blk_new _ _) _) _)
  have B4 := Aside0.mk (show (((w.alloc (.cells #[.int .i32 a, .int .i32 b] 38)).alloc (.cells #[.int .i32 c, .int .i32 d] 38)).alloc (.cells #[.int .i32 0, .int .i32 0] 38)).heap[w.heap.size + 1]? = some (.cells #[.int .i32 c, .int .i32 d] 38 (0, 0)) from by have h := blk_alloc (blk_new (w.alloc (.cells #[.int .i32 a, .int .i32 b] 38)) (.cells #[.int .i32 c, .int .i32 d] 38)) (.cells #[.int .i32 0, .int .i32 0] 38); simpa using h)
  have B6 := Aside0.mk (show (((w.alloc (.cells #[.int .i32 a, .int .i32 b] 38)).alloc (.cells #[.int .i32 c, .int .i32 d] 38)).alloc (.cells #[.int .i32 0, .int .i32 0] 38)).heap[w.heap.size + 1 + 1]? = some (.cells #[.int .i32 0, .int .i32 0] 38 (0, 0)) from by have h := blk_new ((w.alloc (.cells #[.int .i32 a, .int .i32 b] 38)).alloc (.cells #[.int .i32 c, .int .i32 d] 38)) (.cells #[.int .i32 0, .int .i32 0] 38); simpa using h)
  have G6 := Aside0.mk (show w.heap.size ≤ w.heap.size + 1 + 1 by omega)
  have HB := Aside0.mk (show Below w.heap.size w (((w.alloc (.cells #[.int .i32 a, .int .i32 b] 38)).alloc (.cells #[.int .i32 c, .int .i32 d] 38)).alloc (.cells #[.int .i32 0, .int .i32 0] 38)) from by repeat (first | (with_reducible first | exact HB.out | apply below_alloc | apply pw_below_drewN | apply below_drew1 | refine below_set ?_ G6.out) | exact HB.out))
  go_loopg [7, 17] 2 (fun kq v7 v17 w' => ∃ (l : List Int), ((kq = 2 ∧ v17 = .int .i64 0 ∧ l = []) ∨ (kq = 1 ∧ v17 = .int .i64 1 ∧ l = [p, q]) ∨ (kq = 0 ∧ v17 = .int .i64 2 ∧ l = [p, q, r, s])) ∧ Aside0 (Kd.R (Kd.int .i64) 2 w' w.heap.size (fun _ => True) v7 l) ∧ Aside0 (w'.heap[w.heap.size]? = some (.cells #[.int .i32 a, .int .i32 b] 38 (0, 0))) ∧ Aside0 (w'.heap[w.heap.size + 1]? = some (.cells #[.int .i32 c, .int .i32 d] 38 (0, 0))) ∧ Aside0 (w'.heap[w.heap.size + 1 + 1]? = some (.cells #[.int .i32 0, .int .i32 0] 38 (0, 0))) ∧ Aside0 (Below w.heap.size w w'))
  case atStart => exact ⟨[], .inl ⟨rfl, rfl, rfl⟩, ⟨Kd.R_nil _ _ _ _ _⟩, B3, B4, B6, HB⟩
  case round =>
    clear B3 B4 B6 HB
    obtain ⟨l, hk, HO, B3, B4, B6, HB⟩ := hrel
    have c40 : wr.cell? ⟨w.heap.size + 1, 0, none⟩ = some (.int .i32 c) := (blk_cell B4.out 0).trans rfl
    have c41 : wr.cell? ⟨w.heap.size + 1, 1, none⟩ = some (.int .i32 d) := (blk_cell B4.out 1).trans rfl
    rcases hk with ⟨rfl, rfl, rfl⟩ | ⟨rfl, rfl, rfl⟩ | ⟨rfl, rfl, rfl⟩
    · go_wp2
      go_loopg [7, 25] 2 (fun kq v7 v25 w' => ∃ (l : List Int), ((kq = 2 ∧ v25 = .int .i64 0 ∧ l = []) ∨ (kq = 1 ∧ v25 = .int .i64 1 ∧ l = [p]) ∨ (kq = 0 ∧ v25 = .int .i64 2 ∧ l = [p, q])) ∧ Aside0 (Kd.R (Kd.int .i64) 2 w' w.heap.size (fun _ => True) v7 l) ∧ Aside0 (w'.heap[w.heap.size]? = some (.cells #[.int .i32 a, .int .i32 b] 38 (0, 0))) ∧ Aside0 (w'.heap[w.heap.size + 1]? = some (.cells #[.int .i32 c, .int .i32 d] 38 (0, 0))) ∧ Aside0 (w'.heap[w.heap.size + 1 + 1]? = some (.cells #[.int .i32 0, .int .i32 0] 38 (0, 0))) ∧ Aside0 (Below w.heap.size w w'))
      case atStart => exact ⟨[], .inl ⟨rfl, rfl, rfl⟩, HO, B3, B4, B6, HB⟩
      case round =>
        clear c40 c41 B3 B4 B6 HB HO
        obtain ⟨l, hk, HO, B3, B4, B6, HB⟩ := hrel
        rcases hk with ⟨rfl, rfl, rfl⟩ | ⟨rfl, rfl, rfl⟩ | ⟨rfl, rfl, rfl⟩
        · go_wp2_with (first | (go_at_call 56; (with_reducible refine (f56w a c p ha.out hc.out k00.out _).mono ?_); rintro e w' ⟨rfl, rfl⟩) | ((with_reducible refine gate_builtin (b := .append) (xs := #[.tmp 28, .tmp 35]) rfl ?_); at_builtin; refine Kd.R_append (Kd.int .i64) (w0 := w) w.heap.size rfl (.tmp 28) (.tmp 35) 75 2 (.int .i64 0) 8 rfl Try.underlying75 info2 rfl (by decide) (by omega) _ [] p [.int .i64 p] (fun _ => True) (fun _ => False) rfl rfl ?aP (fun _ hk => hk.elim) ?aF ?aO ?aB ?aS ?aL ?_; (case aP => exact rfl); (case aF => exact (fun _ _ => trivial)); (case aO => exact (by (with_reducible repeat (first | apply Kd.R_alloc | apply Kd.R_drewN | apply Kd.R_drew)); exact HO.out)); (case aB => exact (by repeat (first | (with_reducible first | exact HB.out | apply below_alloc | apply pw_below_drewN | apply below_drew1 | refine below_set ?_ G6.out) | exact HB.out))); (case aS => exact (below_size (by repeat (first | (with_reducible first | exact HB.out | apply below_alloc | apply pw_below_drewN | apply below_drew1 | refine below_set ?_ G6.out) | exact HB.out)))); (case aL => simp); intro v1 w3 ho hb hg hat; have n0 := Aside0.mk (blk_grown (by (with_reducible repeat (first | refine blk_drewN ?_ _ | refine blk_drew ?_ | refine blk_alloc ?_ _)); exact B3.out) hg (Kd.R_ne HO.out B3.out (by decide))); have n1 := Aside0.mk (blk_grown (by (with_reducible repeat (first | refine blk_drewN ?_ _ | refine blk_drew ?_ | refine blk_alloc ?_ _)); exact B4.out) hg (Kd.R_ne HO.out B4.out (by decide))); have n2 := Aside0.mk (blk_grown (by (with_reducible repeat (first | refine blk_drewN ?_ _ | refine blk_drew ?_ | refine blk_alloc ?_ _)); exact B6.out) hg (Kd.R_ne HO.out B6.out (by decide))); have n3 := Aside0.mk ho; have n4 := Aside0.mk hb; clear B3 B4 B6 HO HB; have B3 := n0; have B4 := n1; have B6 := n2; have HO := n3; have HB := n4; clear n0 n1 n2 n3 n4 ho hb hg hat))
          go_roundg 1
          case measure => omega
          case rel => exact ⟨_, .inr (.inl ⟨rfl, rfl, rfl⟩), HO, B3, B4, B6, HB⟩
        · go_wp2_with (first | (go_at_call 56; (with_reducible refine (f56w a d q ha.out hd.out k01.out _).mono ?_); rintro e w' ⟨rfl, rfl⟩) | ((with_reducible refine gate_builtin (b := .append) (xs := #[.tmp 28, .tmp 35]) rfl ?_); at_builtin; refine Kd.R_append (Kd.int .i64) (w0 := w) w.heap.size rfl (.tmp 28) (.tmp 35) 75 2 (.int .i64 0) 8 rfl Try.underlying75 info2 rfl (by decide) (by omega) _ [p] q [.int .i64 q] (fun _ => True) (fun _ => False) rfl rfl ?aP (fun _ hk => hk.elim) ?aF ?aO ?aB ?aS ?aL ?_; (case aP => exact rfl); (case aF => exact (fun _ _ => trivial)); (case aO => exact (by (with_reducible repeat (first | apply Kd.R_alloc | apply Kd.R_drewN | apply Kd.R_drew)); exact HO.out)); (case aB => exact (by repeat (first | (with_reducible first | exact HB.out | apply below_alloc | apply pw_below_drewN | apply below_drew1 | refine below_set ?_ G6.out) | exact HB.out))); (case aS => exact (below_size (by repeat (first | (with_reducible first | exact HB.out | apply below_alloc | apply pw_below_drewN | apply below_drew1 | refine below_set ?_ G6.out) | exact HB.out)))); (case aL => simp); intro v1 w3 ho hb hg hat; have n0 := Aside0.mk (blk_grown (by (with_reducible repeat (first | refine blk_drewN ?_ _ | refine blk_drew ?_ | refine blk_alloc ?_ _)); exact B3.out) hg (Kd.R_ne HO.out B3.out (by decide))); have n1 := Aside0.mk (blk_grown (by (with_reducible repeat (first | refine blk_drewN ?_ _ | refine blk_drew ?_ | refine blk_alloc ?_ _)); exact B4.out) hg (Kd.R_ne HO.out B4.out (by decide))); have n2 := Aside0.mk (blk_grown (by (with_reducible repeat (first | refine blk_drewN ?_ _ | refine blk_drew ?_ | refine blk_alloc ?_ _)); exact B6.out) hg (Kd.R_ne HO.out B6.out (by decide))); have n3 := Aside0.mk ho; have n4 := Aside0.mk hb; clear B3 B4 B6 HO HB; have B3 := n0; have B4 := n1; have B6 := n2; have HO := n3; have HB := n4; clear n0 n1 n2 n3 n4 ho hb hg hat))
          go_roundg 0
          case measure => omega
          case rel => exact ⟨_, .inr (.inr ⟨rfl, rfl, rfl⟩), HO, B3, B4, B6, HB⟩
        · go_wp2
          go_roundg 1
          case measure => omega
          case rel => exact ⟨_, .inr (.inl ⟨rfl, rfl, rfl⟩), HO, B3, B4, B6, HB⟩
    · go_wp2
      go_loopg [7, 25] 2 (fun kq v7 v25 w' => ∃ (l : List Int), ((kq = 2 ∧ v25 = .int .i64 0 ∧ l = [p, q]) ∨ (kq = 1 ∧ v25 = .int .i64 1 ∧ l = [p, q, r]) ∨ (kq = 0 ∧ v25 = .int .i64 2 ∧ l = [p, q, r, s])) ∧ Aside0 (Kd.R (Kd.int .i64) 2 w' w.heap.size (fun _ => True) v7 l) ∧ Aside0 (w'.heap[w.heap.size]? = some (.cells #[.int .i32 a, .int .i32 b] 38 (0, 0))) ∧ Aside0 (w'.heap[w.heap.size + 1]? = some (.cells #[.int .i32 c, .int .i32 d] 38 (0, 0))) ∧ Aside0 (w'.heap[w.heap.size + 1 + 1]? = some (.cells #[.int .i32 0, .int .i32 0] 38 (0, 0))) ∧ Aside0 (Below w.heap.size w w'))
      case atStart => exact ⟨[p, q], .inl ⟨rfl, rfl, rfl⟩, HO, B3, B4, B6, HB⟩
      case round =>
        clear c40 c41 B3 B4 B6 HB HO
        obtain ⟨l, hk, HO, B3, B4, B6, HB⟩ := hrel
        rcases hk with ⟨rfl, rfl, rfl⟩ | ⟨rfl, rfl, rfl⟩ | ⟨rfl, rfl, rfl⟩
        · go_wp2_with (first | (go_at_call 56; (with_reducible refine (f56w b c r hb.out hc.out k10.out _).mono ?_); rintro e w' ⟨rfl, rfl⟩) | ((with_reducible refine gate_builtin (b := .append) (xs := #[.tmp 28, .tmp 35]) rfl ?_); at_builtin; refine Kd.R_append (Kd.int .i64) (w0 := w) w.heap.size rfl (.tmp 28) (.tmp 35) 75 2 (.int .i64 0) 8 rfl Try.underlying75 info2 rfl (by decide) (by omega) _ [p, q] r [.int .i64 r] (fun _ => True) (fun _ => False) rfl rfl ?aP (fun _ hk => hk.elim) ?aF ?aO ?aB ?aS ?aL ?_; (case aP => exact rfl); (case aF => exact (fun _ _ => trivial)); (case aO => exact (by (with_reducible repeat (first | apply Kd.R_alloc | apply Kd.R_drewN | apply Kd.R_drew)); exact HO.out)); (case aB => exact (by repeat (first | (with_reducible first | exact HB.out | apply below_alloc | apply pw_below_drewN | apply below_drew1 | refine below_set ?_ G6.out) | exact HB.out))); (case aS => exact (below_size (by repeat (first | (with_reducible first | exact HB.out | apply below_alloc | apply pw_below_drewN | apply below_drew1 | refine below_set ?_ G6.out) | exact HB.out)))); (case aL => simp); intro v1 w3 ho hb hg hat; have n0 := Aside0.mk (blk_grown (by (with_reducible repeat (first | refine blk_drewN ?_ _ | refine blk_drew ?_ | refine blk_alloc ?_ _)); exact B3.out) hg (Kd.R_ne HO.out B3.out (by decide))); have n1 := Aside0.mk (blk_grown (by (with_reducible repeat (first | refine blk_drewN ?_ _ | refine blk_drew ?_ | refine blk_alloc ?_ _)); exact B4.out) hg (Kd.R_ne HO.out B4.out (by decide))); have n2 := Aside0.mk (blk_grown (by (with_reducible repeat (first | refine blk_drewN ?_ _ | refine blk_drew ?_ | refine blk_alloc ?_ _)); exact B6.out) hg (Kd.R_ne HO.out B6.out (by decide))); have n3 := Aside0.mk ho; have n4 := Aside0.mk hb; clear B3 B4 B6 HO HB; have B3 := n0; have B4 := n1; have B6 := n2; have HO := n3; have HB := n4; clear n0 n1 n2 n3 n4 ho hb hg hat))
          go_roundg 1
          case measure => omega
          case rel => exact ⟨_, .inr (.inl ⟨rfl, rfl, rfl⟩), HO, B3, B4, B6, HB⟩
        · go_wp2_with (first | (go_at_call 56; (with_reducible refine (f56w b d s hb.out hd.out k11.out _).mono ?_); rintro e w' ⟨rfl, rfl⟩) | ((with_reducible refine gate_builtin (b := .append) (xs := #[.tmp 28, .tmp 35]) rfl ?_); at_builtin; refine Kd.R_append (Kd.int .i64) (w0 := w) w.heap.size rfl (.tmp 28) (.tmp 35) 75 2 (.int .i64 0) 8 rfl Try.underlying75 info2 rfl (by decide) (by omega) _ [p, q, r] s [.int .i64 s] (fun _ => True) (fun _ => False) rfl rfl ?aP (fun _ hk => hk.elim) ?aF ?aO ?aB ?aS ?aL ?_; (case aP => exact rfl); (case aF => exact (fun _ _ => trivial)); (case aO => exact (by (with_reducible repeat (first | apply Kd.R_alloc | apply Kd.R_drewN | apply Kd.R_drew)); exact HO.out)); (case aB => exact (by repeat (first | (with_reducible first | exact HB.out | apply below_alloc | apply pw_below_drewN | apply below_drew1 | refine below_set ?_ G6.out) | exact HB.out))); (case aS => exact (below_size (by repeat (first | (with_reducible first | exact HB.out | apply below_alloc | apply pw_below_drewN | apply below_drew1 | refine below_set ?_ G6.out) | exact HB.out)))); (case aL => simp); intro v1 w3 ho hb hg hat; have n0 := Aside0.mk (blk_grown (by (with_reducible repeat (first | refine blk_drewN ?_ _ | refine blk_drew ?_ | refine blk_alloc ?_ _)); exact B3.out) hg (Kd.R_ne HO.out B3.out (by decide))); have n1 := Aside0.mk (blk_grown (by (with_reducible repeat (first | refine blk_drewN ?_ _ | refine blk_drew ?_ | refine blk_alloc ?_ _)); exact B4.out) hg (Kd.R_ne HO.out B4.out (by decide))); have n2 := Aside0.mk (blk_grown (by (with_reducible repeat (first | refine blk_drewN ?_ _ | refine blk_drew ?_ | refine blk_alloc ?_ _)); exact B6.out) hg (Kd.R_ne HO.out B6.out (by decide))); have n3 := Aside0.mk ho; have n4 := Aside0.mk hb; clear B3 B4 B6 HO HB; have B3 := n0; have B4 := n1; have B6 := n2; have HO := n3; have HB := n4; clear n0 n1 n2 n3 n4 ho hb hg hat))
          go_roundg 0
          case measure => omega
          case rel => exact ⟨_, .inr (.inr ⟨rfl, rfl, rfl⟩), HO, B3, B4, B6, HB⟩
        · go_wp2
          go_roundg 0
          case measure => omega
          case rel => exact ⟨_, .inr (.inr ⟨rfl, rfl, rfl⟩), HO, B3, B4, B6, HB⟩
    · obtain ⟨A7, n7, e7, hn7, hC7⟩ := Kd.R_reads HO.out
      subst e7
      go_wp2_with (go_at_call 78; (refine (interval_hull.calls 6 A7 n7 [p, q, r, s] x y _ hC7 hn7 (by rw [hull_f4 0]; exact congrArg some kh.out)).mono ?_); rintro e w' ⟨rfl, hb⟩; have B6' := Aside0.mk (blk_below B6.out hb); have c60 : w'.cell? ⟨w.heap.size + 1 + 1, 0, none⟩ = some (.int .i32 0) := (blk_cell B6'.out 0).trans rfl; have c61 : w'.cell? ⟨w.heap.size + 1 + 1, 1, none⟩ = some (.int .i32 0) := (blk_cell B6'.out 1).trans rfl; have f60 := blk_frozen B6'.out 0; have f61 := blk_frozen B6'.out 1; have HB' := Aside0.mk (below_step HB.out hb); clear HB; have HB := HB'; clear HB' hb)
      refine bodyPost_ret (results_cell_row rfl _ _ (w.heap.size + 1 + 1) 38 #[.int .i32 x, .int .i32 y] (0, 0) _ rfl (by refine blk_put (cs := #[.int .i32 x, .int .i32 0]) ?_ 1 _ rfl; refine blk_put (cs := #[.int .i32 0, .int .i32 0]) ?_ 0 _ rfl; exact B6'.out) Try.underlying38 rfl (by kernel_rfl)) rfl ⟨rfl, by repeat (first | (with_reducible first | exact HB.out | apply below_alloc | apply pw_below_drewN | apply below_drew1 | refine below_set ?_ G6.out) | exact HB.out)⟩

set_option maxHeartbeats 4000000 in
set_option maxRecDepth 100000 in
theorem corners79 (a b c d p q r s x y : Int) (ha : Aside0 (I32 a)) (hb : Aside0 (I32 b)) (hc : Aside0 (I32 c)) (hd : Aside0 (I32 d)) (z0 : Aside0 (c ≠ 0)) (z1 : Aside0 (d ≠ 0)) (k00 : Aside0 (Int.tdiv a c = p)) (k01 : Aside0 (Int.tdiv a d = q)) (k10 : Aside0 (Int.tdiv b c = r)) (k11 : Aside0 (Int.tdiv b d = s)) (kh : Aside0 (hull4 p q r s = (x, y))) (w : World) :
    Calls Try.prog 53 #[.agg #[.int .i32 a, .int .i32 b], .agg #[.int .i32 c, .int .i32 d], .func (.func 79) #[] #[]] w fun e w' => e = .returned (.agg #[.int .i32 x, .int .i32 y]) ∧ Below w.heap.size w w' := by
  have hu38 := Try.underlying38
  have HB := Aside0.mk (Below.refl w.heap.size w)
  go_enter Try.func53, Try.ntmps53
  go_wp2
  have B3 := Aside0.mk (show (((w.alloc (.cells #[.int .i32 a, .int .i32 b] 38)).alloc (.cells #[.int .i32 c, .int .i32 d] 38)).alloc (.cells #[.int .i32 0, .int .i32 0] 38)).heap[w.heap.size]? = some (.cells #[.int .i32 a, .int .i32 b] 38 (0, 0)) from blk_alloc (blk_alloc (blk_new _ _) _) _)
  have B4 := Aside0.mk (show (((w.alloc (.cells #[.int .i32 a, .int .i32 b] 38)).alloc (.cells #[.int .i32 c, .int .i32 d] 38)).alloc (.cells #[.int .i32 0, .int .i32 0] 38)).heap[w.heap.size + 1]? = some (.cells #[.int .i32 c, .int .i32 d] 38 (0, 0)) from by have h := blk_alloc (blk_new (w.alloc (.cells #[.int .i32 a, .int .i32 b] 38)) (.cells #[.int .i32 c, .int .i32 d] 38)) (.cells #[.int .i32 0, .int .i32 0] 38); simpa using h)
  have B6 := Aside0.mk (show (((w.alloc (.cells #[.int .i32 a, .int .i32 b] 38)).alloc (.cells #[.int .i32 c, .int .i32 d] 38)).alloc (.cells #[.int .i32 0, .int .i32 0] 38)).heap[w.heap.size + 1 + 1]? = some (.cells #[.int .i32 0, .int .i32 0] 38 (0, 0)) from by have h := blk_new ((w.alloc (.cells #[.int .i32 a, .int .i32 b] 38)).alloc (.cells #[.int .i32 c, .int .i32 d] 38)) (.cells #[.int .i32 0, .int .i32 0] 38); simpa using h)
  have G6 := Aside0.mk (show w.heap.size ≤ w.heap.size + 1 + 1 by omega)
  have HB := Aside0.mk (show Below w.heap.size w (((w.alloc (.cells #[.int .i32 a, .int .i32 b] 38)).alloc (.cells #[.int .i32 c, .int .i32 d] 38)).alloc (.cells #[.int .i32 0, .int .i32 0] 38)) from by repeat (first | (with_reducible first | exact HB.out | apply below_alloc | apply pw_below_drewN | apply below_drew1 | refine below_set ?_ G6.out) | exact HB.out))
  go_loopg [7, 17] 2 (fun kq v7 v17 w' => ∃ (l : List Int), ((kq = 2 ∧ v17 = .int .i64 0 ∧ l = []) ∨ (kq = 1 ∧ v17 = .int .i64 1 ∧ l = [p, q]) ∨ (kq = 0 ∧ v17 = .int .i64 2 ∧ l = [p, q, r, s])) ∧ Aside0 (Kd.R (Kd.int .i64) 2 w' w.heap.size (fun _ => True) v7 l) ∧ Aside0 (w'.heap[w.heap.size]? = some (.cells #[.int .i32 a, .int .i32 b] 38 (0, 0))) ∧ Aside0 (w'.heap[w.heap.size + 1]? = some (.cells #[.int .i32 c, .int .i32 d] 38 (0, 0))) ∧ Aside0 (w'.heap[w.heap.size + 1 + 1]? = some (.cells #[.int .i32 0, .int .i32 0] 38 (0, 0))) ∧ Aside0 (Below w.heap.size w w'))
  case atStart => exact ⟨[], .inl ⟨rfl, rfl, rfl⟩, ⟨Kd.R_nil _ _ _ _ _⟩, B3, B4, B6, HB⟩
  case round =>
    clear B3 B4 B6 HB
    obtain ⟨l, hk, HO, B3, B4, B6, HB⟩ := hrel
    have c40 : wr.cell? ⟨w.heap.size + 1, 0, none⟩ = some (.int .i32 c) := (blk_cell B4.out 0).trans rfl
    have c41 : wr.cell? ⟨w.heap.size + 1, 1, none⟩ = some (.int .i32 d) := (blk_cell B4.out 1).trans rfl
    rcases hk with ⟨rfl, rfl, rfl⟩ | ⟨rfl, rfl, rfl⟩ | ⟨rfl, rfl, rfl⟩
    · go_wp2
      go_loopg [7, 25] 2 (fun kq v7 v25 w' => ∃ (l : List Int), ((kq = 2 ∧ v25 = .int .i64 0 ∧ l = []) ∨ (kq = 1 ∧ v25 = .int .i64 1 ∧ l = [p]) ∨ (kq = 0 ∧ v25 = .int .i64 2 ∧ l = [p, q])) ∧ Aside0 (Kd.R (Kd.int .i64) 2 w' w.heap.size (fun _ => True) v7 l) ∧ Aside0 (w'.heap[w.heap.size]? = some (.cells #[.int .i32 a, .int .i32 b] 38 (0, 0))) ∧ Aside0 (w'.heap[w.heap.size + 1]? = some (.cells #[.int .i32 c, .int .i32 d] 38 (0, 0))) ∧ Aside0 (w'.heap[w.heap.size + 1 + 1]? = some (.cells #[.int .i32 0, .int .i32 0] 38 (0, 0))) ∧ Aside0 (Below w.heap.size w w'))
      case atStart => exact ⟨[], .inl ⟨rfl, rfl, rfl⟩, HO, B3, B4, B6, HB⟩
      case round =>
        clear c40 c41 B3 B4 B6 HB HO
        obtain ⟨l, hk, HO, B3, B4, B6, HB⟩ := hrel
        rcases hk with ⟨rfl, rfl, rfl⟩ | ⟨rfl, rfl, rfl⟩ | ⟨rfl, rfl, rfl⟩
        · go_wp2_with (first | (go_at_call 79; (with_reducible refine (f79w a c p ha.out hc.out z0.out k00.out _).mono ?_); rintro e w' ⟨rfl, rfl⟩) | ((with_reducible refine gate_builtin (b := .append) (xs := #[.tmp 28, .tmp 35]) rfl ?_); at_builtin; refine Kd.R_append (Kd.int .i64) (w0 := w) w.heap.size rfl (.tmp 28) (.tmp 35) 75 2 (.int .i64 0) 8 rfl Try.underlying75 info2 rfl (by decide) (by omega) _ [] p [.int .i64 p] (fun _ => True) (fun _ => False) rfl rfl ?aP (fun _ hk => hk.elim) ?aF ?aO ?aB ?aS ?aL ?_; (case aP => exact rfl); (case aF => exact (fun _ _ => trivial)); (case aO => exact (by (with_reducible repeat (first | apply Kd.R_alloc | apply Kd.R_drewN | apply Kd.R_drew)); exact HO.out)); (case aB => exact (by repeat (first | (with_reducible first | exact HB.out | apply below_alloc | apply pw_below_drewN | apply below_drew1 | refine below_set ?_ G6.out) | exact HB.out))); (case aS => exact (below_size (by repeat (first | (with_reducible first | exact HB.out | apply below_alloc | apply pw_below_drewN | apply below_drew1 | refine below_set ?_ G6.out) | exact HB.out)))); (case aL => simp); intro v1 w3 ho hb hg hat; have n0 := Aside0.mk (blk_grown (by (with_reducible repeat (first | refine blk_drewN ?_ _ | refine blk_drew ?_ | refine blk_alloc ?_ _)); exact B3.out) hg (Kd.R_ne HO.out B3.out (by decide))); have n1 := Aside0.mk (blk_grown (by (with_reducible repeat (first | refine blk_drewN ?_ _ | refine blk_drew ?_ | refine blk_alloc ?_ _)); exact B4.out) hg (Kd.R_ne HO.out B4.out (by decide))); have n2 := Aside0.mk (blk_grown (by (with_reducible repeat (first | refine blk_drewN ?_ _ | refine blk_drew ?_ | refine blk_alloc ?_ _)); exact B6.out) hg (Kd.R_ne HO.out B6.out (by decide))); have n3 := Aside0.mk ho; have n4 := Aside0.mk hb; clear B3 B4 B6 HO HB; have B3 := n0; have B4 := n1; have B6 := n2; have HO := n3; have HB := n4; clear n0 n1 n2 n3 n4 ho hb hg hat))
          go_roundg 1
          case measure => omega
          case rel => exact ⟨_, .inr (.inl ⟨rfl, rfl, rfl⟩), HO, B3, B4, B6, HB⟩
        · go_wp2_with (first | (go_at_call 79; (with_reducible refine (f79w a d q ha.out hd.out z1.out k01.out _).mono ?_); rintro e w' ⟨rfl, rfl⟩) | ((with_reducible refine gate_builtin (b := .append) (xs := #[.tmp 28, .tmp 35]) rfl ?_); at_builtin; refine Kd.R_append (Kd.int .i64) (w0 := w) w.heap.size rfl (.tmp 28) (.tmp 35) 75 2 (.int .i64 0) 8 rfl Try.underlying75 info2 rfl (by decide) (by omega) _ [p] q [.int .i64 q] (fun _ => True) (fun _ => False) rfl rfl ?aP (fun _ hk => hk.elim) ?aF ?aO ?aB ?aS ?aL ?_; (case aP => exact rfl); (case aF => exact (fun _ _ => trivial)); (case aO => exact (by (with_reducible repeat (first | apply Kd.R_alloc | apply Kd.R_drewN | apply Kd.R_drew)); exact HO.out)); (case aB => exact (by repeat (first | (with_reducible first | exact HB.out | apply below_alloc | apply pw_below_drewN | apply below_drew1 | refine below_set ?_ G6.out) | exact HB.out))); (case aS => exact (below_size (by repeat (first | (with_reducible first | exact HB.out | apply below_alloc | apply pw_below_drewN | apply below_drew1 | refine below_set ?_ G6.out) | exact HB.out)))); (case aL => simp); intro v1 w3 ho hb hg hat; have n0 := Aside0.mk (blk_grown (by (with_reducible repeat (first | refine blk_drewN ?_ _ | refine blk_drew ?_ | refine blk_alloc ?_ _)); exact B3.out) hg (Kd.R_ne HO.out B3.out (by decide))); have n1 := Aside0.mk (blk_grown (by (with_reducible repeat (first | refine blk_drewN ?_ _ | refine blk_drew ?_ | refine blk_alloc ?_ _)); exact B4.out) hg (Kd.R_ne HO.out B4.out (by decide))); have n2 := Aside0.mk (blk_grown (by (with_reducible repeat (first | refine blk_drewN ?_ _ | refine blk_drew ?_ | refine blk_alloc ?_ _)); exact B6.out) hg (Kd.R_ne HO.out B6.out (by decide))); have n3 := Aside0.mk ho; have n4 := Aside0.mk hb; clear B3 B4 B6 HO HB; have B3 := n0; have B4 := n1; have B6 := n2; have HO := n3; have HB := n4; clear n0 n1 n2 n3 n4 ho hb hg hat))
          go_roundg 0
          case measure => omega
          case rel => exact ⟨_, .inr (.inr ⟨rfl, rfl, rfl⟩), HO, B3, B4, B6, HB⟩
        · go_wp2
          go_roundg 1
          case measure => omega
          case rel => exact ⟨_, .inr (.inl ⟨rfl, rfl, rfl⟩), HO, B3, B4, B6, HB⟩
    · go_wp2
      go_loopg [7, 25] 2 (fun kq v7 v25 w' => ∃ (l : List Int), ((kq = 2 ∧ v25 = .int .i64 0 ∧ l = [p, q]) ∨ (kq = 1 ∧ v25 = .int .i64 1 ∧ l = [p, q, r]) ∨ (kq = 0 ∧ v25 = .int .i64 2 ∧ l = [p, q, r, s])) ∧ Aside0 (Kd.R (Kd.int .i64) 2 w' w.heap.size (fun _ => True) v7 l) ∧ Aside0 (w'.heap[w.heap.size]? = some (.cells #[.int .i32 a, .int .i32 b] 38 (0, 0))) ∧ Aside0 (w'.heap[w.heap.size + 1]? = some (.cells #[.int .i32 c, .int .i32 d] 38 (0, 0))) ∧ Aside0 (w'.heap[w.heap.size + 1 + 1]? = some (.cells #[.int .i32 0, .int .i32 0] 38 (0, 0))) ∧ Aside0 (Below w.heap.size w w'))
      case atStart => exact ⟨[p, q], .inl ⟨rfl, rfl, rfl⟩, HO, B3, B4, B6, HB⟩
      case round =>
        clear c40 c41 B3 B4 B6 HB HO
        obtain ⟨l, hk, HO, B3, B4, B6, HB⟩ := hrel
        rcases hk with ⟨rfl, rfl, rfl⟩ | ⟨rfl, rfl, rfl⟩ | ⟨rfl, rfl, rfl⟩
        · go_wp2_with (first | (go_at_call 79; (with_reducible refine (f79w b c r hb.out hc.out z0.out k10.out _).mono ?_); rintro e w' ⟨rfl, rfl⟩) | ((with_reducible refine gate_builtin (b := .append) (xs := #[.tmp 28, .tmp 35]) rfl ?_); at_builtin; refine Kd.R_append (Kd.int .i64) (w0 := w) w.heap.size rfl (.tmp 28) (.tmp 35) 75 2 (.int .i64 0) 8 rfl Try.underlying75 info2 rfl (by decide) (by omega) _ [p, q] r [.int .i64 r] (fun _ => True) (fun _ => False) rfl rfl ?aP (fun _ hk => hk.elim) ?aF ?aO ?aB ?aS ?aL ?_; (case aP => exact rfl); (case aF => exact (fun _ _ => trivial)); (case aO => exact (by (with_reducible repeat (first | apply Kd.R_alloc | apply Kd.R_drewN | apply Kd.R_drew)); exact HO.out)); (case aB => exact (by repeat (first | (with_reducible first | exact HB.out | apply below_alloc | apply pw_below_drewN | apply below_drew1 | refine below_set ?_ G6.out) | exact HB.out))); (case aS => exact (below_size (by repeat (first | (with_reducible first | exact HB.out | apply below_alloc | apply pw_below_drewN | apply below_drew1 | refine below_set ?_ G6.out) | exact HB.out)))); (case aL => simp); intro v1 w3 ho hb hg hat; have n0 := Aside0.mk (blk_grown (by (with_reducible repeat (first | refine blk_drewN ?_ _ | refine blk_drew ?_ | refine blk_alloc ?_ _)); exact B3.out) hg (Kd.R_ne HO.out B3.out (by decide))); have n1 := Aside0.mk (blk_grown (by (with_reducible repeat (first | refine blk_drewN ?_ _ | refine blk_drew ?_ | refine blk_alloc ?_ _)); exact B4.out) hg (Kd.R_ne HO.out B4.out (by decide))); have n2 := Aside0.mk (blk_grown (by (with_reducible repeat (first | refine blk_drewN ?_ _ | refine blk_drew ?_ | refine blk_alloc ?_ _)); exact B6.out) hg (Kd.R_ne HO.out B6.out (by decide))); have n3 := Aside0.mk ho; have n4 := Aside0.mk hb; clear B3 B4 B6 HO HB; have B3 := n0; have B4 := n1; have B6 := n2; have HO := n3; have HB := n4; clear n0 n1 n2 n3 n4 ho hb hg hat))
          go_roundg 1
          case measure => omega
          case rel => exact ⟨_, .inr (.inl ⟨rfl, rfl, rfl⟩), HO, B3, B4, B6, HB⟩
        · go_wp2_with (first | (go_at_call 79; (with_reducible refine (f79w b d s hb.out hd.out z1.out k11.out _).mono ?_); rintro e w' ⟨rfl, rfl⟩) | ((with_reducible refine gate_builtin (b := .append) (xs := #[.tmp 28, .tmp 35]) rfl ?_); at_builtin; refine Kd.R_append (Kd.int .i64) (w0 := w) w.heap.size rfl (.tmp 28) (.tmp 35) 75 2 (.int .i64 0) 8 rfl Try.underlying75 info2 rfl (by decide) (by omega) _ [p, q, r] s [.int .i64 s] (fun _ => True) (fun _ => False) rfl rfl ?aP (fun _ hk => hk.elim) ?aF ?aO ?aB ?aS ?aL ?_; (case aP => exact rfl); (case aF => exact (fun _ _ => trivial)); (case aO => exact (by (with_reducible repeat (first | apply Kd.R_alloc | apply Kd.R_drewN | apply Kd.R_drew)); exact HO.out)); (case aB => exact (by repeat (first | (with_reducible first | exact HB.out | apply below_alloc | apply pw_below_drewN | apply below_drew1 | refine below_set ?_ G6.out) | exact HB.out))); (case aS => exact (below_size (by repeat (first | (with_reducible first | exact HB.out | apply below_alloc | apply pw_below_drewN | apply below_drew1 | refine below_set ?_ G6.out) | exact HB.out)))); (case aL => simp); intro v1 w3 ho hb hg hat; have n0 := Aside0.mk (blk_grown (by (with_reducible repeat (first | refine blk_drewN ?_ _ | refine blk_drew ?_ | refine blk_alloc ?_ _)); exact B3.out) hg (Kd.R_ne HO.out B3.out (by decide))); have n1 := Aside0.mk (blk_grown (by (with_reducible repeat (first | refine blk_drewN ?_ _ | refine blk_drew ?_ | refine blk_alloc ?_ _)); exact B4.out) hg (Kd.R_ne HO.out B4.out (by decide))); have n2 := Aside0.mk (blk_grown (by (with_reducible repeat (first | refine blk_drewN ?_ _ | refine blk_drew ?_ | refine blk_alloc ?_ _)); exact B6.out) hg (Kd.R_ne HO.out B6.out (by decide))); have n3 := Aside0.mk ho; have n4 := Aside0.mk hb; clear B3 B4 B6 HO HB; have B3 := n0; have B4 := n1; have B6 := n2; have HO := n3; have HB := n4; clear n0 n1 n2 n3 n4 ho hb hg hat))
          go_roundg 0
          case measure => omega
          case rel => exact ⟨_, .inr (.inr ⟨rfl, rfl, rfl⟩), HO, B3, B4, B6, HB⟩
        · go_wp2
          go_roundg 0
          case measure => omega
          case rel => exact ⟨_, .inr (.inr ⟨rfl, rfl, rfl⟩), HO, B3, B4, B6, HB⟩
    · obtain ⟨A7, n7, e7, hn7, hC7⟩ := Kd.R_reads HO.out
      subst e7
      go_wp2_with (go_at_call 78; (refine (interval_hull.calls 6 A7 n7 [p, q, r, s] x y _ hC7 hn7 (by rw [hull_f4 0]; exact congrArg some kh.out)).mono ?_); rintro e w' ⟨rfl, hb⟩; have B6' := Aside0.mk (blk_below B6.out hb); have c60 : w'.cell? ⟨w.heap.size + 1 + 1, 0, none⟩ = some (.int .i32 0) := (blk_cell B6'.out 0).trans rfl; have c61 : w'.cell? ⟨w.heap.size + 1 + 1, 1, none⟩ = some (.int .i32 0) := (blk_cell B6'.out 1).trans rfl; have f60 := blk_frozen B6'.out 0; have f61 := blk_frozen B6'.out 1; have HB' := Aside0.mk (below_step HB.out hb); clear HB; have HB := HB'; clear HB' hb)
      refine bodyPost_ret (results_cell_row rfl _ _ (w.heap.size + 1 + 1) 38 #[.int .i32 x, .int .i32 y] (0, 0) _ rfl (by refine blk_put (cs := #[.int .i32 x, .int .i32 0]) ?_ 1 _ rfl; refine blk_put (cs := #[.int .i32 0, .int .i32 0]) ?_ 0 _ rfl; exact B6'.out) Try.underlying38 rfl (by kernel_rfl)) rfl ⟨rfl, by repeat (first | (with_reducible first | exact HB.out | apply below_alloc | apply pw_below_drewN | apply below_drew1 | refine below_set ?_ G6.out) | exact HB.out)⟩

end Go.Proofs.Ytoalomjmmlnclaa.Ivl
